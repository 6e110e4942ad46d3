/- Contracts of the program's functions, and what they rest on: SumD Recs SumE SumF. -/
import Derived.Test.YtmfmfpmkgmkgiaaGreatDoorMat
import Derived.Test.YtmfmfpmkgmkgiaaGreatDoorMad
import Derived.Test.YtmfmfpmkgmkgiaaGreatDoorMae
import Derived.Laws.IdiomRangeMap
import Derived.Test.YtmfmfpmkgmkgiaaGreatDoorMap
import Derived.Test.YtmfmfpmkgmkgiaaGreatDoorMam
import Derived.Test.YtmfmfpmkgmkgiaaGreatDoorMai
import Derived.Lib.SlKeysI
set_option linter.unusedVariables false
set_option linter.unusedSimpArgs false
namespace Go.Proofs.YtmfmfpmkgmkgiaaGreatDoor
open Go.RowKit Go.Maps
open Rat
def RangesB (w : World) (mb r N : Nat) (F : Int → Option Nat) (left : Int → Bool) (cnt : Nat) : Prop :=
  ∃ D leftL, w.ranges Tryz.prog 3 ptrElem mb r N D leftL cnt ∧ (∀ c, I64 c → leftL (.int .i64 c) = left c) ∧ (∀ c, left c = true → (F c).isSome = true) ∧ (∀ c, I64 c → ∀ b, F c = some b → ∀ z, D.atKey (.int .i64 c) z = .lit (.int .u64 (b : Nat)))
theorem sameKey_i64 (a b : Int) : (Lit.int .i64 a).sameKey (.int .i64 b) = decide (a = b) := by
  cases h : decide (a = b) with
  | true => rw [decide_eq_true_iff] at h; subst h; simp [Lit.sameKey]
  | false => rw [decide_eq_false_iff_not] at h; simp [Lit.sameKey, h]
theorem RangesB.kept {w w' : World} {row : Option Nat} {mb r N : Nat} {F : Int → Option Nat} {left : Int → Bool} {cnt : Nat} (h : RangesB w mb r N F left cnt) (hg : w.grownBy w' row) (h1 : some mb ≠ row) (h2 : some r ≠ row) : RangesB w' mb r N F left cnt := by
  obtain ⟨D, leftL, hr, k⟩ := h; exact ⟨D, leftL, hr.kept hg h1 h2, k⟩
theorem RangesB.left_eq {w : World} {mb r N : Nat} {F : Int → Option Nat} {left : Int → Bool} {cnt : Nat} (h : RangesB w mb r N F left cnt) : w.rangeLeft mb r = cnt := by
  obtain ⟨D, leftL, hr, k⟩ := h; exact hr.left_eq
theorem RangesB.iter {w : World} {mb r N : Nat} {F : Int → Option Nat} {left : Int → Bool} {cnt : Nat} (h : RangesB w mb r N F left cnt) : ∃ m s seen c, w.heap[r]? = some (.mapIter m s seen c) := by
  obtain ⟨D, leftL, ⟨es, clock, since, seen, c0, _, _, _, _, hr, _⟩, k⟩ := h; exact ⟨_, _, _, _, hr⟩
theorem RangesB.obj {w : World} {mb r N : Nat} {F : Int → Option Nat} {left : Int → Bool} {cnt : Nat} (h : RangesB w mb r N F left cnt) : ∃ es cl, w.heap[mb]? = some (.map es cl) := by
  obtain ⟨D, leftL, ⟨es, clock, since, seen, c0, hb, _⟩, k⟩ := h; exact ⟨_, _, hb⟩
theorem RangesB.plain {w : World} {mb r N : Nat} {F : Int → Option Nat} {left : Int → Bool} {cnt : Nat} (h : RangesB w mb r N F left cnt) : Plain w r := by
  obtain ⟨m, s, seen, c, hr⟩ := h.iter
  intro o n
  simp [World.cell?, hr]
theorem RangesB.int_ne {w : World} {mb r N b : Nat} {z : Int} {F : Int → Option Nat} {left : Int → Bool} {cnt : Nat} (h : RangesB w mb r N F left cnt) (hb : IntB w b z) : b ≠ r ∧ b ≠ mb := by
  obtain ⟨m, s, seen, c, hr⟩ := h.iter
  obtain ⟨es, cl, hm⟩ := h.obj
  obtain ⟨v, T, hb, _⟩ := hb
  constructor
  · rintro rfl; rw [hb] at hr; cases hr
  · rintro rfl; rw [hb] at hm; cases hm
theorem wpList_rangeB {w : World} {ops : Array Oper} {rest : List Oper} {o : Oper} {a : Act} {Q : Exit → Act → World → Prop} (hg : o.guard = none) (m : Operand) (hop : o.op = Op.range 112 m)
    {mb N : Nat} {F : Int → Option Nat} (h : MapB w mb N F) (hm : a.eval m = .map (some mb))
    (hK : ∀ w' cnt, RangesB w' mb w.heap.size N F (fun c => (F c).isSome) cnt → w.grownBy w' none → w'.heap.size = w.heap.size + 1 → wpList Tryz.prog ops Q rest (a.put o.dst (.pointer (some ⟨w.heap.size, 0, none⟩))) w') : wpList Tryz.prog ops Q (o :: rest) a w := by
  obtain ⟨h0, D, hown, h2⟩ := h
  refine wpList_range_own w hg m 112 hop 3 175 lawI Tryz.underlying112 ptrElem mb N D hm hown fun w' hr hg' hs => hK w' (Maps.size D) ⟨D, Maps.has D, hr, fun c hc => (h2 c hc).1, fun c hc => hc, fun c hc => (h2 c hc).2⟩ hg' hs
theorem wpList_nextB {w : World} {ops : Array Oper} {rest : List Oper} {o : Oper} {a : Act} {Q : Exit → Act → World → Prop} (hg : o.guard = none) (it : Operand) (hop : o.op = Op.next it false)
    {mb r N : Nat} {F : Int → Option Nat} {left : Int → Bool} {cnt : Nat} (h : RangesB w mb r N F left cnt) (hit : a.eval it = .pointer (some ⟨r, 0, none⟩))
    (hDone : (∀ c, I64 c → left c = false) → wpList Tryz.prog ops Q rest (a.put o.dst (.tuple #[.bool false])) w)
    (hMore : ∀ (c : Int) (b : Nat) (w' : World) (cnt' : Nat), I64 c → left c = true → F c = some b → RangesB w' mb r N F (fun d => left d && decide (d ≠ c)) cnt' → cnt' < cnt → w.grownBy w' (some r) → w'.heap.size = w.heap.size →
      (Instr.entry (.pointer (some ⟨r, 0, none⟩))).run Tryz.prog w' = .ok (.tuple #[.int .i64 c, .pointer (some ⟨b, 0, none⟩)]) w' → wpList Tryz.prog ops Q rest (a.put o.dst (.tuple #[.bool true, .int .i64 c, .pointer (some ⟨b, 0, none⟩)])) w') :
    wpList Tryz.prog ops Q (o :: rest) a w := by
  obtain ⟨D, leftL, hr, k1, k2, k3⟩ := h
  refine wpList_next_ranges w hg it hop 3 lawI ptrElem (Value.int .i64) ptrOf (fun key kl hkey => by obtain ⟨x, rfl, _⟩ := Maps.keyOf_int_inv Tryz.underlying3 hkey; exact ⟨x, rfl⟩) (fun v y hv => by obtain ⟨o, rfl, _⟩ := ptrElem_inv hv; exact ⟨o, rfl⟩) mb r N D leftL cnt hit hr
    (fun _ hl => hDone fun c hc => by rw [← k1 c hc]; exact hl _) (fun c ob kl y w' cnt' hkey hlk hv hat hrg hlt hgr hsz hen => ?_)
  obtain ⟨x', ex, rfl, hwx⟩ := Maps.keyOf_int_inv Tryz.underlying3 hkey
  injection ex with _ ex
  subst ex
  have hI := i64_wf hwx
  have hl := k1 c hI
  rw [hlk] at hl
  have hF := k2 c hl.symm
  cases hb : F c with
  | none => rw [hb] at hF; cases hF
  | some b =>
    have h3 := k3 c hI b hb (.agg [])
    rw [hat (.agg [])] at h3
    obtain ⟨y1, y2⟩ := y
    simp only at h3
    subst h3
    have h4 := ptrElem_lit hv
    rw [h4] at hen ⊢
    refine hMore c b w' cnt' hI hl.symm hb ⟨D, _, hrg, fun d hd => ?_, fun d hd => k2 d (by simp at hd; exact hd.1), k3⟩ hlt hgr hsz hen
    simp only [sameKey_i64, k1 d hd]
    simp
def MultAt (L : List StampP) (r : Nat) (done : Nat → Int → Bool) (m : Nat) : Prop :=
  (∀ k c, k < 5 → hasQ L (r * 5 + k) c = true → done k c = true → (accQ L (r * 5 + k) c).den ∣ m) ∧ ∀ m', (∀ k c, k < 5 → hasQ L (r * 5 + k) c = true → (accQ L (r * 5 + k) c).den ∣ m') → m ∣ m'
theorem MultAt.start (L : List StampP) (r : Nat) : MultAt L r (fun _ _ => false) 1 := ⟨fun _ _ _ _ h => (by cases h), fun _ _ => Nat.one_dvd _⟩
theorem MultAt.step {L : List StampP} {r m k : Nat} {c : Int} {done done' : Nat → Int → Bool} (h : MultAt L r done m) (hk : k < 5) (hh : hasQ L (r * 5 + k) c = true) (hd : ∀ j d, done' j d = true → done j d = true ∨ j = k ∧ d = c) : MultAt L r done' (m * ((accQ L (r * 5 + k) c).den / Nat.gcd m (accQ L (r * 5 + k) c).den)) := by
  generalize hq : (accQ L (r * 5 + k) c).den = q at *
  have e : m * (q / Nat.gcd m q) = Nat.lcm m q := by rw [Nat.lcm, Nat.mul_div_assoc _ (Nat.gcd_dvd_right _ _)]
  rw [e]
  refine ⟨fun j d hj hjd hdd => ?_, fun m' hm => Nat.lcm_dvd (h.2 m' hm) (by rw [← hq]; exact hm k c hk hh)⟩
  rcases hd j d hdd with h1 | ⟨rfl, rfl⟩
  · exact Nat.dvd_trans (h.1 j d hj hjd h1) (Nat.dvd_lcm_left _ _)
  · rw [hq]; exact Nat.dvd_lcm_right _ _
theorem MultAt.weak {L : List StampP} {r m : Nat} {done done' : Nat → Int → Bool} (h : MultAt L r done m) (hd : ∀ j d, j < 5 → hasQ L (r * 5 + j) d = true → done' j d = true → done j d = true) : MultAt L r done' m := ⟨fun j d hj hjd hdd => h.1 j d hj hjd (hd j d hj hjd hdd), h.2⟩
theorem MultAt.end {L : List StampP} {r m : Nat} {done : Nat → Int → Bool} (h : MultAt L r done m) (hd : ∀ j d, j < 5 → hasQ L (r * 5 + j) d = true → done j d = true) : m = multL L r :=
  IsMult.unique ⟨fun k c hk hh => h.1 k c hk hh (hd k c hk hh), h.2⟩ (multL_is L r)
theorem MultAt.dvd {L : List StampP} {r m : Nat} {done : Nat → Int → Bool} (h : MultAt L r done m) : m ∣ densL L := h.2 _ fun _ _ _ _ => accQ_den _ _ _
theorem MultAt.lim {L : List StampP} {r m K : Nat} {done : Nat → Int → Bool} (h : MultAt L r done m) (hL : LimL L K) : lim (m : Int) ≤ L.length * K + 1 := Nat.le_trans (lim_dvd h.dvd (densL_pos L)) (densL_lim hL)

set_option maxRecDepth 100000 in
set_option maxHeartbeats 40000000 in
theorem smult_calls (w : World) (base rb n r K : Nat) (L : List StampP) (hS : SumsS w base rb n L) (hrn : r < n) (hL : LimL L K) (hkb : L.length * (K + 2) + 1 ≤ 549755813888) :
    Calls Tryz.prog 98 #[.pointer (some ⟨rb, r * 5, none⟩)] w fun e w' => ∃ b, e = .returned (.pointer (some ⟨b, 0, none⟩)) ∧ IntB w' b (multL L r : Nat) ∧ w.heap.size ≤ b ∧ w.grownBy w' none := by
  obtain ⟨ms, E, hms, hE, hsnd⟩ := hS
  have ho : ∀ k, k < 5 → ∃ o, ms[r * 5 + k]? = some o := fun k hk => ⟨ms[r * 5 + k]'(by omega), List.getElem?_eq_getElem (by omega)⟩
  obtain ⟨o0, h0⟩ := ho 0 (by omega)
  obtain ⟨o1, h1⟩ := ho 1 (by omega)
  obtain ⟨o2, h2⟩ := ho 2 (by omega)
  obtain ⟨o3, h3⟩ := ho 3 (by omega)
  obtain ⟨o4, h4⟩ := ho 4 (by omega)
  have hidx : ∀ k, k < 5 → ∃ o, ms[r * 5 + k]? = some o ∧ ∀ W, (Instr.index 113 (.agg #[.map o0, .map o1, .map o2, .map o3, .map o4]) (.int .i64 (k : Int))).run Tryz.prog W = .ok (.map o) W := by
    intro k hk
    rcases (show k = 0 ∨ k = 1 ∨ k = 2 ∨ k = 3 ∨ k = 4 by omega) with rfl | rfl | rfl | rfl | rfl
    · exact ⟨o0, h0, fun _ => by kernel_rfl⟩
    · exact ⟨o1, h1, fun _ => by kernel_rfl⟩
    · exact ⟨o2, h2, fun _ => by kernel_rfl⟩
    · exact ⟨o3, h3, fun _ => by kernel_rfl⟩
    · exact ⟨o4, h4, fun _ => by kernel_rfl⟩
  have HIDX := Lib.hid hidx
  have HE := Lib.hid hE
  have HSND := Lib.hid hsnd
  have HL := Lib.hid hL
  have HKB := Lib.hid hkb
  clear hidx hE hsnd hL hkb ho
  go_enter Tryz.func98, Tryz.ntmps98
  go_wp2_with fail
  refine (NewInt_calls w 1 (by omega) (by omega)).mono ?_
  rintro e w1 ⟨mb, rfl, hi1, hb1, hg1⟩
  have q0 := gb_cell hg1 (HE.out.cell h0) (by simp)
  have q1 := gb_cell hg1 (HE.out.cell h1) (by simp)
  have q2 := gb_cell hg1 (HE.out.cell h2) (by simp)
  have q3 := gb_cell hg1 (HE.out.cell h3) (by simp)
  have q4 := gb_cell hg1 (HE.out.cell h4) (by simp)
  have HI1 := Lib.hid hi1
  have HG1 := Lib.hid hg1
  have HB1 := Lib.hid hb1
  clear hi1 hg1 hb1 h0 h1 h2 h3 h4
  simp only [Nat.add_zero] at q0
  go_wp2_with fail
  clear q0 q1 q2 q3 q4
  go_loopw [13] (fun iv wr => ∃ k : Nat, k ≤ 5 ∧ iv = .int .i64 k ∧ w.grownBy wr none ∧ Hid (∃ m : Nat, IntB wr mb (m : Nat) ∧ MultAt L r (fun j _ => decide (j < k)) m)) (fun iv _ => (5 - intOf iv).toNat)
  case atStart => exact ⟨0, by omega, rfl, HG1.out, Lib.hid ⟨1, HI1.out, (MultAt.start L r).weak (fun j d _ _ h => by simp at h)⟩⟩
  case round =>
    obtain ⟨k, hk, rfl, hg, hm⟩ := hrel
    by_cases hlt : k < 5
    · obtain ⟨o, hmo, hix⟩ := HIDX.out k hlt
      cases o with
      | none =>
        have hrg := fun W : World => run_range_nilMap (P := Tryz.prog) W 112 3 175 Tryz.underlying112
        have hnx : ∀ (W : World) ty, (Instr.next (.pointer (some ⟨W.heap.size, 0, none⟩)) false ty).run Tryz.prog (W.alloc (.mapIter none 0 #[] 0)) = _ := fun W ty => run_next_nilMap W ty 0 0 #[]
        go_wp2_with fail
        refine wp_loop_rounds 1 ?_
        rw [rounds_succ]
        go_wp2_with fail
        obtain ⟨m, hm1, hm2⟩ := hm.out
        exact ⟨⟨k + 1, by omega, by go_num, gb_trans hg (gb_alloc _ _ _), Lib.hid ⟨m, hm1.more (gb_alloc _ _ _), hm2.weak fun j d hj hh hd => by
          have hd' : j < k + 1 := of_decide_eq_true hd
          by_cases hjk : j = k
          · subst hjk
            have h1 := HSND.out (r * 5 + j) d
            rw [HE.out.nil _ d hmo, hh] at h1
            simp at h1
          · simp; omega⟩⟩, by simp [intOf]; omega⟩
      | some mp =>
        have hmap := ((HE.out.more hg).maps _ _ hmo).2
        have HMO := Lib.hid hmo
        have HG := Lib.hid hg
        have hszr := hg.size
        go_wp2_with (first
          | (at_range; refine wpList_rangeB rfl _ rfl hmap rfl ?_; intro w0 cnt0 hrg0 hg0 hs0)
          | fail)
        go_frame
        have t5 : decide ((k : Int) < 5) = true := decide_eq_true (by omega)
        rw [t5]
        clear t5
        generalize hrb : wr.heap.size = rr at *
        have HRG0 := Lib.hid hrg0
        have HG0 := Lib.hid hg0
        have HMM := Lib.hid (show ∃ m : Nat, IntB w0 mb (m : Nat) ∧ MultAt L r (fun j _ => decide (j < k)) m from by obtain ⟨m, h1, h2⟩ := hm.out; exact ⟨m, h1.more hg0, h2⟩)
        clear hrg0 hg0 hm hmap hg
        go_loopw [7] (fun _ wx => ∃ (left : Int → Bool) (cnt m : Nat), Hid (RangesB wx mp rr L.length (fun c => (E (r * 5 + k) c).map Prod.fst) left cnt) ∧ w.grownBy wx none ∧ Hid (IntB wx mb (m : Nat)) ∧ Hid (MultAt L r (fun j d => decide (j < k) || (decide (j = k) && !left d)) m)) (fun _ wx => wx.rangeLeft mp rr)
        case atStart =>
          obtain ⟨m, h1, h2⟩ := HMM.out
          exact ⟨_, cnt0, m, HRG0, gb_trans HG.out HG0.out, Lib.hid h1, Lib.hid (h2.weak fun j d hj hh hd => by
            simp only [Bool.or_eq_true] at hd
            rcases hd with h3 | h3
            · exact h3
            · simp only [Bool.and_eq_true, decide_eq_true_eq] at h3
              obtain ⟨rfl, h4⟩ := h3
              have h5 := HSND.out (r * 5 + j) d
              rw [hh] at h5
              cases hx : E (r * 5 + j) d with
              | none => rw [hx] at h5; simp at h5
              | some bq => rw [hx] at h4; simp at h4)⟩
        case round =>
          obtain ⟨left, cnt, m, hrg, hgx, hmx, hacc⟩ := hrel
          obtain ⟨w5, rfl⟩ : ∃ w5 : World, w5 = wr := ⟨_, rfl⟩
          go_wp2_with (first
            | (at_next; refine wpList_nextB rfl _ rfl hrg.out rfl ?_ ?_)
            | fail)
          · intro hl0
            go_wp2_with fail
            exact ⟨⟨k + 1, by omega, by go_num, hgx, Lib.hid ⟨m, hmx.out, hacc.out.weak fun j d hj hh hd => by
              have hd' : j < k + 1 := of_decide_eq_true hd
              by_cases hjk : j = k
              · subst hjk
                have h5 := HSND.out (r * 5 + j) d
                rw [hh] at h5
                cases hx : E (r * 5 + j) d with
                | none => rw [hx] at h5; simp at h5
                | some bq =>
                  have hI := ((HE.out.maps _ _ HMO.out).2).1 d bq.1 (show (E (r * 5 + j) d).map Prod.fst = _ by rw [hx]; rfl)
                  simp [hl0 d hI]
              · simp; omega⟩⟩, by simp [intOf]; omega⟩
          · intro c b w1 cnt1 hIc hlx q hEc hrg1 hlt1 hg1 hs1 hen
            have hq := snd_some HSND.out hEc
            have hrat := (HE.out.rats _ _ _ _ hEc).2
            rw [hq] at hEc hrat
            have hh : hasQ L (r * 5 + k) c = true := by
              have h5 := HSND.out (r * 5 + k) c
              rw [hEc] at h5
              cases hx : hasQ L (r * 5 + k) c with
              | true => rfl
              | false => rw [hx] at h5; simp at h5
            have hstep := fun done' hd => hacc.out.step (done' := done') hlt hh hd
            have hqd : accQ L (r * 5 + k) c = accQ L (r * 5 + k) c := rfl
            have hlm : lim (m : Int) ≤ 549755813888 := Nat.le_trans (hacc.out.lim HL.out) (by have := HKB.out; rw [Nat.mul_add] at this; omega)
            have hla := accQ_lim HL.out (r * 5 + k) c
            have hpl := hrg.out.plain
            have hne := hrg.out.int_ne hmx.out
            have hi1 := hmx.out.other hg1 hpl hne.1
            have hgw1 := gb_new hgx hg1 hszr
            have HR1 := Lib.hid (hrat.more hgw1)
            have HI1' := Lib.hid hi1
            have HGW := Lib.hid hgw1
            have HRG1 := Lib.hid hrg1
            have HST := Lib.hid hstep
            have HLM := Lib.hid hlm
            have HLA := Lib.hid (show LimQ (accQ L (r * 5 + k) c) 549755813888 from hla.mono HKB.out)
            have HMX := hmx
            have HCNT := Lib.hid (And.intro hrg.out.left_eq hlt1)
            have HPOS : Hid (0 < m) := Lib.hid (Nat.pos_of_dvd_of_pos hacc.out.dvd (densL_pos L))
            clear hstep hla hpl hne hi1 hgw1 hrg1 hlm hqd hrat hEc hg1 hs1 hacc hmx hrg hgx hlt1
            have gz := gb_alloc w1 (.cells #[.bool false, .slice none 0 0] 141) none
            have HZ : Hid (IntB (w1.alloc (.cells #[.bool false, .slice none 0 0] 141)) w1.heap.size 0) := Lib.hid ⟨.slice none 0 0, 141, heap_alloc_new _ _, Nums.nil _⟩
            have HGZ := Lib.hid gz
            clear gz
            go_wp2_with fail
            generalize hwz : w1.alloc (.cells #[.bool false, .slice none 0 0] 141) = wz at *
            generalize hzb : w1.heap.size = zb at *
            clear hwz
            refine (Denom_calls wz b _ (HR1.out.more HGZ.out) (by have := HLA.out.2; omega)).mono ?_
            rintro e w2 ⟨b2, rfl, hi2, hb2, hg2⟩
            have HI2 := Lib.hid hi2
            have HG2 := Lib.hid hg2
            clear hi2 hb2 hg2
            go_wp2_with fail
            refine (Denom_calls w2 b _ ((HR1.out.more HGZ.out).more HG2.out) (by have := HLA.out.2; omega)).mono ?_
            rintro e w3 ⟨b3, rfl, hi3, hb3, hg3⟩
            have HI3 := Lib.hid hi3
            have HG3 := Lib.hid (gb_trans HG2.out hg3)
            have HI2 := Lib.hid (HI2.out.more hg3)
            clear hi3 hb3 hg3
            go_wp2_with fail
            refine (Gcd_calls w3 mb 0 b3 0 _ _ (((HI1'.out.more HGZ.out).more HG3.out).at) HI3.out.at HLM.out HLA.out.2).mono ?_
            rintro e w4 ⟨b4, rfl, hi4, hb4, hg4⟩
            have HI4 := Lib.hid hi4
            have HG4 := Lib.hid (gb_trans HG3.out hg4)
            have HI2 := Lib.hid (HI2.out.more hg4)
            clear hi4 hb4 hg4
            go_wp2_with fail
            have hi4 := HI4.out
            rw [Int.natAbs_natCast, Int.natAbs_natCast] at hi4
            have hi2 := HI2.out
            have hld := HLA.out.2
            have hgp : 0 < Nat.gcd m (accQ L (r * 5 + k) c).den := Nat.gcd_pos_of_pos_left _ HPOS.out
            obtain ⟨dn, hdn⟩ : ∃ dn, dn = (accQ L (r * 5 + k) c).den := ⟨_, rfl⟩
            rw [← hdn] at hi2 hi4 hld hgp
            obtain ⟨gg, hgg⟩ : ∃ gg, gg = Nat.gcd m dn := ⟨_, rfl⟩
            rw [← hgg] at hi4 hgp
            have HDN := Lib.hid hdn
            have HGG := Lib.hid hgg
            clear hdn hgg
            have hgg0 : (gg : Int) ≠ 0 := by omega
            have hl2 : lim (dn : Int) ≤ 1099511627776 := by omega
            refine (Quo_calls w4 zb b2 0 b4 0 0 (dn : Int) (gg : Int) (HZ.out.more HG4.out) hi2.at hi4.at hl2 hgg0).mono ?_
            rintro e w6 ⟨rfl, hi6, hg6⟩
            have hsz6 : w.heap.size ≤ zb := by rw [← hzb]; exact HGW.out.size
            have HI6 := Lib.hid hi6
            have HG6 := Lib.hid (show wz.grownBy w6 (some zb) from gb_trans (gb_none HG4.out) hg6)
            have hne : mb ≠ zb := by have := HI1'.out.lt; omega
            have HNE := Lib.hid hne
            have hmb6 := ((HI1'.out.more HGZ.out).more HG4.out).other hg6 (HZ.out.more HG4.out).plain hne
            have HMB6 := Lib.hid hmb6
            clear hi6 hg6 hmb6 hne hi4 hi2
            go_wp2_with fail
            have hq6 : lim ((dn : Int).tdiv (gg : Int)) ≤ 1099511627776 := Nat.le_trans (lim_natAbs (natAbs_tdiv_le _ _)) hl2
            refine (Mul_calls w6 mb mb 0 zb 0 (m : Int) (m : Int) _ HMB6.out HMB6.out.at HI6.out.at (Nat.le_trans HLM.out (by omega)) hq6).mono ?_
            rintro e w7 ⟨rfl, hi7, hg7⟩
            have HI7 := Lib.hid hi7
            have HG7 := Lib.hid hg7
            clear hi7 hg7
            go_wp2_with fail
            have hne1 := HRG1.out.int_ne HI1'.out
            have hlt1 : mp < zb ∧ rr < zb := by
              obtain ⟨es, cl, ho⟩ := HRG1.out.obj
              obtain ⟨_, _, _, _, hr⟩ := HRG1.out.iter
              have := lt_of_heap ho
              have := lt_of_heap hr
              omega
            have hrz := (((HRG1.out.kept HGZ.out (by simp) (by simp)).kept HG6.out (by simp; omega) (by simp; omega)).kept HG7.out (by simp; exact hne1.2.symm) (by simp; exact hne1.1.symm))
            have hgw7 := gb_new (gb_new (gb_trans HGW.out HGZ.out) HG6.out hsz6) HG7.out HB1.out
            have hst := HST.out (fun j d => decide (j < k) || (decide (j = k) && !(left d && !decide (d = c)))) (fun j d hd => by
              simp only [Bool.or_eq_true, Bool.and_eq_true, decide_eq_true_eq, Bool.not_eq_true', Bool.and_eq_false_iff, Bool.not_eq_false', decide_eq_true_eq] at hd ⊢
              rcases hd with hd | ⟨h1, h2 | h2⟩
              · exact .inl (.inl hd)
              · exact .inl (.inr ⟨h1, h2⟩)
              · exact .inr ⟨h1, h2⟩)
            have e7 : (m : Int) * (dn : Int).tdiv (gg : Int) = ((m * ((accQ L (r * 5 + k) c).den / Nat.gcd m (accQ L (r * 5 + k) c).den) : Nat) : Int) := by
              rw [← HDN.out, ← HGG.out, Int.natCast_mul, Int.tdiv_eq_ediv_of_nonneg (by omega), Int.natCast_ediv]
            have hi7 := HI7.out
            rw [e7] at hi7
            have hml := hrz.left_eq
            have hc := HCNT.out
            refine ⟨⟨_, cnt1, _, Lib.hid hrz, hgw7, Lib.hid hi7, Lib.hid hst⟩, ?_⟩
            rw [hml, hc.1]; exact hc.2
    · obtain rfl : k = 5 := by omega
      obtain ⟨m, hm1, hm2⟩ := hm.out
      have e := hm2.end (fun j d hj _ => by simp; omega)
      subst e
      have HM := Lib.hid hm1
      clear hm hm1 hm2
      go_wp2_with fail
      go_ret
      exact ⟨mb, rfl, HM.out, HB1.out, hg⟩

end Go.Proofs.YtmfmfpmkgmkgiaaGreatDoor

namespace Go.Proofs.YtmfmfpmkgmkgiaaGreatDoor
open Go.RowKit Go.Maps
open Rat
def RecR {α : Type} (k : Nat) (R : List Value → α → Prop) (xs : List Value) : List α → Prop
  | [] => xs = []
  | a :: L => ∃ cs rest, xs = cs ++ rest ∧ cs.length = k ∧ R cs a ∧ RecR k R rest L
theorem RecR.nil {α : Type} (k : Nat) (R : List Value → α → Prop) : RecR k R [] [] := rfl
theorem RecR.snoc {α : Type} {k : Nat} {R : List Value → α → Prop} {ys : List Value} {a : α} (hl : ys.length = k) (ha : R ys a) : ∀ {xs : List Value} {L : List α}, RecR k R xs L → RecR k R (xs ++ ys) (L ++ [a])
  | xs, [], h => by
    have : xs = [] := h
    subst this
    exact ⟨ys, [], by simp, hl, ha, rfl⟩
  | xs, t :: L, ⟨cs, rest, e, h1, h2, h3⟩ => ⟨cs, rest ++ ys, by rw [e, List.append_assoc], h1, h2, h3.snoc hl ha⟩
theorem RecR.imp {α : Type} {k : Nat} {R R' : List Value → α → Prop} (hi : ∀ cs a, R cs a → R' cs a) : ∀ {xs : List Value} {L : List α}, RecR k R xs L → RecR k R' xs L
  | _, [], h => h
  | _, _ :: _, ⟨cs, rest, e, h1, h2, h3⟩ => ⟨cs, rest, e, h1, hi _ _ h2, h3.imp hi⟩
theorem RecR.length {α : Type} {k : Nat} {R : List Value → α → Prop} : ∀ {xs : List Value} {L : List α}, RecR k R xs L → xs.length = L.length * k
  | _, [], h => by have : _ = [] := h; subst this; simp
  | _, _ :: L, ⟨cs, rest, e, h1, h2, h3⟩ => by rw [e, List.length_append, h3.length, h1, List.length_cons, Nat.succ_mul]; omega
theorem RecR.at {α : Type} {k : Nat} {R : List Value → α → Prop} : ∀ {xs : List Value} {L : List α}, RecR k R xs L → ∀ i (hi : i < L.length), ∃ cs, R cs L[i] ∧ cs.length = k ∧ ∀ j, j < k → xs[i * k + j]? = cs[j]?
  | _, [], _, i, hi => by simp at hi
  | _, a :: L, ⟨cs, rest, e, h1, h2, h3⟩, 0, hi => ⟨cs, h2, h1, fun j hj => by rw [e, Nat.zero_mul, Nat.zero_add, List.getElem?_append_left (by omega)]⟩
  | _, a :: L, ⟨cs, rest, e, h1, h2, h3⟩, i + 1, hi => by
    obtain ⟨cs', h4, h5, h6⟩ := h3.at i (by simpa using hi)
    refine ⟨cs', h4, h5, fun j hj => ?_⟩
    rw [e, List.getElem?_append_right (by rw [h1, Nat.succ_mul]; omega), h1, ← h6 j hj]
    congr 1
    rw [Nat.succ_mul]; omega
theorem OwnQ.recs {α : Type} {w : World} {base : Nat} {e : TypeId} {k : Nat} {v : Value} {n : Nat} {xs : List Value} {R : List Value → α → Prop} {L : List α} (h : OwnQ w base e k v n xs) (hi : RecR k R xs L) (hn : n = L.length) :
    ∃ A c, v = .slice A L.length c ∧ L.length ≤ c ∧ c ≤ 9223372036854775807 ∧ (0 < L.length → ∃ b, A = some ⟨b, 0, none⟩ ∧ ∀ i (hi : i < L.length), ∃ cs, R cs L[i] ∧ cs.length = k ∧ ∀ j, j < k → w.cell? ⟨b, i * k + j, none⟩ = cs[j]?) := by
  subst hn
  have hc : ∀ {g : Nat}, v.ownBlock = some g → ∀ j u, xs[j]? = some u → w.cell? ((⟨g, 0, none⟩ : Addr).add j) = some u := fun hg => h.1.cells hg
  rcases h.1.2 with ⟨rfl, hn0⟩ | ⟨g, cap, cur, rfl, _, _, hnc, hcm, _⟩
  · exact ⟨none, 0, by rw [hn0], by rw [hn0]; omega, by omega, fun h => by rw [hn0] at h; omega⟩
  · refine ⟨some ⟨g, 0, none⟩, cap, rfl, hnc, by simp only [maxLen] at hcm; omega, fun _ => ⟨g, rfl, fun i hil => ?_⟩⟩
    obtain ⟨cs, h1, h2, h3⟩ := hi.at i hil
    refine ⟨cs, h1, h2, fun j hj => ?_⟩
    have h4 := h3 j hj
    have hcj : cs[j]? = some (cs[j]'(by omega)) := List.getElem?_eq_getElem _
    rw [hcj] at h4 ⊢
    have := hc (g := g) rfl _ _ h4
    rwa [addr0] at this
theorem app_one_qa {P : Program} {W : World} {ops : Array Oper} {rest : List Oper} {o : Oper} {a : Act} {Q : Exit → Act → World → Prop} (base : Nat) (hgd : o.guard = none) (s x : Operand) (t e : TypeId) (z : Value) (size bytes : Nat)
    (ho : o.op = .call { callee := .builtin .append, args := #[s, x], argTypes := #[t, t] })
    (ht : P.underlying t = some (.slice e)) (hinfo : (P.info? e).map (fun i => (i.zero, i.size, i.bytes)) = some (some z, size, bytes)) (hzs : z.cells.size = size) (hsz : 0 < size) (hb0 : 0 < bytes)
    (v : Value) (n : Nat) (xs : List Value) (ys : Array Value) (hs : a.eval s = v) (HO : OwnQ W base e size v n xs)
    (hx : a.eval x = .slice (some ⟨W.heap.size, 0, none⟩) 1 1) (hl : ys.toList.length = size) (h1 : ∀ u ∈ ys.toList, u.oneCell' = true)
    (hbytes : (n + 1) * bytes ≤ 140737488355328) (hbase : base ≤ W.heap.size) (hnd : NoD ys.toList) (hzd : NoD z.cells.toList)
    (h : ∀ g cap w1, OwnQ w1 base e size (.slice (some ⟨g, 0, none⟩) (n + 1) cap) (n + 1) (xs ++ ys.toList) → (W.alloc (.cells ys e)).grownBy w1 v.ownBlock → (v.ownBlock = some g ∨ g = W.heap.size + 1) → wpList P ops Q rest (a.put o.dst (.slice (some ⟨g, 0, none⟩) (n + 1) cap)) w1) :
    wpList P ops Q (o :: rest) a (W.alloc (.cells ys e)) := by
  obtain ⟨g, cap, w1, hr, h2, h3, h4⟩ := run_app_q1 (P := P) (w := W.alloc (.cells ys e)) base t o.type e z size bytes ht hinfo hzs hsz hb0 v n xs (HO.more (gb_alloc _ _ _)) W.heap.size ys e (0, 0) (heap_alloc_new _ _) hl h1 hbytes (by rw [World.size_alloc]; omega) hnd hzd
  rw [World.size_alloc] at h4
  refine wpList_plain hgd fun K hK => ?_
  unfold Oper.wp execOp
  simp only [ho, resolve, invoke, builtin, Sem.run_bind, Sem.run_pure, Result.andThen_ok, List.map_toArray, List.map_cons, List.map_nil, hs, hx, hr]
  exact hK _ _ (h g cap w1 h2 h3 h4)

/-! ### cells -/
def cellZ (p : Int × Int) : CellP := ⟨p.1, decide (p.2 < 0), digs p.2⟩
theorem cellZ_z (p : Int × Int) : (cellZ p).z = p.2 := by
  unfold cellZ CellP.z
  rw [val_digs]; exact sg_self _
def CellV (w : World) (cs : List Value) (p : Int × Int) : Prop := I64 p.1 ∧ ∃ v, cs = [.int .i64 p.1, .bool (decide (p.2 < 0)), v] ∧ Nums w v (digs p.2)
theorem CellV.row {w w' : World} {cs : List Value} {p : Int × Int} {row : Option Nat} (h : CellV w cs p) (hg : w.grownBy w' row) (hp : ∀ r, row = some r → Plain w r) : CellV w' cs p := by
  obtain ⟨h0, v, h1, h2⟩ := h; exact ⟨h0, v, h1, h2.row hg hp⟩
theorem OwnQ.cellRow {w : World} {base : Nat} {e : TypeId} {v : Value} {n : Nat} {xs : List Value} {L : List (Int × Int)} (h : OwnQ w base e 3 v n xs) (hi : RecR 3 (CellV w) xs L) (hn : n = L.length) : CellRow w v (L.map cellZ) := by
  obtain ⟨A, c, rfl, h1, h2, h3⟩ := h.recs hi hn
  refine ⟨A, c, by simp, by simpa using h1, h2, fun hp => ?_⟩
  obtain ⟨b, rfl, h4⟩ := h3 (by simpa using hp)
  refine ⟨b, 0, rfl, fun i hi => ?_⟩
  have hil : i < L.length := by simpa using hi
  obtain ⟨cs, ⟨h0, u, rfl, hn⟩, _, hc⟩ := h4 i hil
  have e : (L.map cellZ).getD i cell0 = cellZ L[i] := by rw [List.getD_eq_getElem?_getD, List.getElem?_map, List.getElem?_eq_getElem hil]; rfl
  rw [e]
  refine ⟨u, h0, ?_, ?_, ?_, hn⟩
  · rw [Nat.zero_add]; exact hc 0 (by omega)
  · rw [Nat.zero_add]; exact hc 1 (by omega)
  · rw [Nat.zero_add]; exact hc 2 (by omega)
theorem CellRow.apart {w w' : World} {v : Value} {l : List CellP} {row : Option Nat} (h : CellRow w v l) (hg : w.grownBy w' row) (hp : ∀ r, row = some r → Plain w r) (hne : ∀ r, row = some r → v.ownBlock ≠ some r) : CellRow w' v l := by
  obtain ⟨A, c, rfl, h1, h2, h4⟩ := h
  refine ⟨A, c, rfl, h1, h2, fun hpos => ?_⟩
  obtain ⟨b, o, rfl, hc⟩ := h4 hpos
  have hb : some b ≠ row := by
    intro e
    exact hne b e.symm rfl
  refine ⟨b, o, rfl, fun i hi => ?_⟩
  obtain ⟨u, hI, c0, c1, c2, hn⟩ := hc i hi
  exact ⟨u, hI, gb_cell hg c0 hb, gb_cell hg c1 hb, gb_cell hg c2 hb, hn.row hg hp⟩

end Go.Proofs.YtmfmfpmkgmkgiaaGreatDoor

namespace Go.Proofs.YtmfmfpmkgmkgiaaGreatDoor
open Go.RowKit Go.Maps Go.Sort Go.Shelf
open Rat

theorem sortsA (m : Nat) : AnyZI.SortsIn Tryz.prog Tryz.sortedA_ren Fence.wide m :=
  ⟨fun blk off cap ss W hH hblk hsz => callsIn_wide.2 (AnyM.slices_Sort_int Tryz.sortA blk off cap ss W hH hblk hsz),
   fun p cap W => callsIn_wide.2 (AnyM.slices_Sort_int_none Tryz.sortA p cap W)⟩
theorem keys_mem {H : Type} {P : Program} {k : TypeId} {R : Value → Option (DataW H × List MemPlace)} {w : World} {b n : Nat} {D0 : DataW H} (hown : w.ownsMap P k R b n D0) (K : Keyed P k) (hk : P.underlying k = some (.int .i64)) :
    (intKeys D0).Nodup ∧ ∀ x, x ∈ intKeys D0 ↔ Maps.has D0 (.int .i64 x) = true := by
  obtain ⟨es, hD, hpw, _⟩ := hown.entries K
  obtain ⟨es', hD', hko⟩ := hown.keysOf
  obtain rfl : es = es' := by rw [hD] at hD'; simpa using hD'
  subst hD
  have hkk : ∀ p ∈ es, ∃ x, p.1 = .int .i64 x := fun p hp => by obtain ⟨v, hv⟩ := hko p hp; obtain ⟨x, _, hx, _⟩ := Maps.keyOf_i64 hk hv; exact ⟨x, hx⟩
  constructor
  · show (es.map fun p => Go.intOf p.1).Nodup
    refine List.pairwise_map.2 (hpw.imp_of_mem fun {p q} hp' hq' hne e => hne ?_)
    obtain ⟨a, ha⟩ := hkk p hp'
    obtain ⟨b, hb⟩ := hkk q hq'
    rw [ha, hb] at e ⊢
    exact congrArg _ e
  · intro x
    rw [has_eq, List.any_eq_true]
    show x ∈ es.map (fun p => Go.intOf p.1) ↔ _
    rw [List.mem_map]
    constructor
    · rintro ⟨p, hp', rfl⟩
      obtain ⟨a, ha⟩ := hkk p hp'
      exact ⟨p, hp', by rw [ha]; simp [Lit.sameKey, Go.intOf]⟩
    · rintro ⟨p, hp', hs⟩
      obtain ⟨a, ha⟩ := hkk p hp'
      rw [ha] at hs
      exact ⟨p, hp', by rw [ha]; simpa [Lit.sameKey, Go.intOf] using hs⟩
theorem rising_sort {l : List Int} (h : l.Nodup) : Rising (l.mergeSort (fun x y => decide (x ≤ y))) := by
  have h1 := List.pairwise_mergeSort (le := fun x y : Int => decide (x ≤ y)) (fun a b c h1 h2 => by simp only [decide_eq_true_eq] at *; omega) (fun a b => by simp only [Bool.or_eq_true, decide_eq_true_eq]; omega) l
  have h2 : (l.mergeSort (fun x y => decide (x ≤ y))).Nodup := (List.mergeSort_perm l _).nodup_iff.2 h
  unfold Rising
  refine (h1.and h2).imp fun {a b} hab => ?_
  have := hab.1
  have hne := hab.2
  simp only [decide_eq_true_eq] at this
  omega
set_option maxHeartbeats 40000000 in
theorem sorted_calls (w : World) (mb N : Nat) (F : Int → Option Nat) (h : MapB w mb N F) (hN : N ≤ 1000000) :
    Calls Tryz.prog 167 #[.func (.func 213) #[] #[.pointer (some ⟨w.heap.size, 0, none⟩)]] (w.alloc (.cells #[.map (some mb)] 112)) fun e w' => ∃ v S, e = .returned v ∧ Rising S ∧ (∀ c, c ∈ S ↔ (F c).isSome = true) ∧ Row w' v (ints S) ∧ S.length ≤ N ∧ w.grownBy w' none := by
  obtain ⟨h0, D, hown, h2⟩ := h
  have hsz := hown.size_le
  refine (callsIn_wide (n := 5)).1 ?_
  have hbl := hown.lt
  have hseq : SeqGives Fence.wide 2 Tryz.prog 213 #[.pointer (some ⟨w.heap.size, 0, none⟩)] encZ (fun ss => ss.Perm (intKeys D)) (Maps.size D) (w.alloc (.cells #[.map (some mb)] 112)) :=
    AnyZI.keys_gives (ρ := Tryz.keysA_ren) { Tryz.keysA with } Fence.wide _ trivial rfl (by omega) w.heap.size mb N D _ (by simp) (by simp) (by
      obtain ⟨es, clock, hb, Ft, hs, hD⟩ := hown
      exact ⟨es, clock, (Below.heap_alloc _ _ mb hbl).trans hb, Ft, hs, hD⟩)
  have cS := AnyZI.sorted_in Tryz.sortedA Fence.wide 5 trivial trivial trivial trivial rfl (by omega) (sortsA _) (enters_of Tryz.func212 (by kernel_rfl) rfl) 213 #[.pointer (some ⟨w.heap.size, 0, none⟩)] trivial (enters_of Tryz.func213 (by kernel_rfl) rfl) _ _ (by unfold maxLen; omega) (by omega) _ hseq
  change CallsIn _ _ Tryz.prog 167 _ _ _ at cS
  refine cS.mono ?_
  rintro e w' ⟨v, ss, rfl, hS, hrow, hnil, hb⟩
  obtain ⟨hnd, hmem⟩ := keys_mem hown lawI Tryz.underlying3
  have hnd2 : ss.Nodup := hS.nodup_iff.2 hnd
  have hms : ∀ c, c ∈ ss ↔ (F c).isSome = true := fun c => by
    rw [hS.mem_iff, hmem]
    by_cases hI : I64 c
    · rw [(h2 c hI).1]
    · have hF : F c = none := by
        cases hF : F c with
        | none => rfl
        | some b => exact absurd (h0 c b hF) hI
      have hnot : ¬ Maps.has D (.int .i64 c) = true := fun hh => hI (i64_wf (intKeys_wf hown Tryz.underlying3 c ((hmem c).2 hh)))
      rw [hF]
      constructor
      · intro hh; exact absurd hh hnot
      · intro hh; cases hh
  refine ⟨v, ss.mergeSort (fun x y => decide (x ≤ y)), rfl, rising_sort hnd2, fun c => by rw [List.mem_mergeSort]; exact hms c, ?_, ?_, ?_⟩
  · have := own_row hrow
    exact this
  · rw [List.length_mergeSort]
    have h3 : ss.length = (intKeys D).length := hS.length_eq
    have h4 : (intKeys D).length = Maps.size D := by
      obtain ⟨es, hD, _, _⟩ := hown.entries lawI
      rw [hD]; simp [intKeys, Maps.size]
    omega
  · exact gb_trans (gb_alloc w _ none) (gb_of_below hb)
theorem Keys_calls (w : World) (mo : Option Nat) : Calls Tryz.prog 168 #[.map mo] w fun e w' => e = .returned (.func (.func 213) #[] #[.pointer (some ⟨w.heap.size, 0, none⟩)]) ∧ w' = w.alloc (.cells #[.map mo] 112) :=
  (callsIn_wide (n := 5)).1 (AnyZI.keys_in Tryz.keysA Fence.wide 5 trivial rfl mo w)
set_option maxHeartbeats 40000000 in
theorem sorted_nil_calls (w : World) :
    Calls Tryz.prog 167 #[.func (.func 213) #[] #[.pointer (some ⟨w.heap.size, 0, none⟩)]] (w.alloc (.cells #[.map none] 112)) fun e w' => e = .returned (.slice none 0 0) ∧ w.grownBy w' none := by
  refine (callsIn_wide (n := 5)).1 ?_
  have hseq : SeqGives Fence.wide 2 Tryz.prog 213 #[.pointer (some ⟨w.heap.size, 0, none⟩)] encZ (fun ss : List Int => ss = []) 0 (w.alloc (.cells #[.map none] 112)) :=
    AnyZI.keys_gives_nil (ρ := Tryz.keysA_ren) { Tryz.keysA with } Fence.wide _ trivial rfl w.heap.size _ (by simp) (by simp)
  have cS := AnyZI.sorted_in Tryz.sortedA Fence.wide 5 trivial trivial trivial trivial rfl (by omega) (sortsA _) (enters_of Tryz.func212 (by kernel_rfl) rfl) 213 #[.pointer (some ⟨w.heap.size, 0, none⟩)] trivial (enters_of Tryz.func213 (by kernel_rfl) rfl) _ 0 (Nat.zero_le _) (by omega) _ hseq
  change CallsIn _ _ Tryz.prog 167 _ _ _ at cS
  refine cS.mono ?_
  rintro e w' ⟨v, ss, rfl, rfl, hrow, hnil, hb⟩
  obtain rfl : v = .slice none 0 0 := hnil.2 rfl
  exact ⟨rfl, gb_trans (gb_alloc w _ none) (gb_of_below hb)⟩
theorem cols_calls (w : World) (o : Option Nat) (N : Nat) (F : Int → Option Nat) (h : ∀ mb, o = some mb → MapB w mb N F) (h0 : o = none → ∀ c, F c = none) (hN : N ≤ 1000000) :
    Calls Tryz.prog 167 #[.func (.func 213) #[] #[.pointer (some ⟨w.heap.size, 0, none⟩)]] (w.alloc (.cells #[.map o] 112)) fun e w' => ∃ v S, e = .returned v ∧ Rising S ∧ (∀ c, c ∈ S ↔ (F c).isSome = true) ∧ Row w' v (ints S) ∧ S.length ≤ N ∧ w.grownBy w' none := by
  cases o with
  | none =>
    refine (sorted_nil_calls w).mono ?_
    rintro e w' ⟨rfl, hg⟩
    exact ⟨_, [], rfl, List.Pairwise.nil, fun c => by rw [h0 rfl c]; simp, Row.nil _, by simp, hg⟩
  | some mb => exact sorted_calls w mb N F (h mb rfl) hN

end Go.Proofs.YtmfmfpmkgmkgiaaGreatDoor

namespace Go.Proofs.YtmfmfpmkgmkgiaaGreatDoor
open Go.RowKit Go.Maps
open Rat

theorem rowint_at {w : World} {A : Option Addr} {n c : Nat} {S : List Int} (h : Row w (.slice A n c) (ints S)) {k : Nat} (hk : k < S.length) : ∃ b o, A = some ⟨b, o, none⟩ ∧ w.cell? ⟨b, o + k, none⟩ = some (.int .i64 (S.getD k 0)) := by
  obtain ⟨A', c', e, h1, h2, h3⟩ := h
  rw [ints_length] at *
  injection e with e1 e2 e3
  subst e1
  rcases h3 with ⟨h0, _⟩ | ⟨b, o, rfl, hc⟩
  · have := congrArg List.length h0; rw [ints_length] at this; exact absurd (show S.length = 0 from this) (by omega)
  · exact ⟨b, o, rfl, (hc k hk).trans (ints_get S k hk)⟩
theorem cellinfo : (Tryz.prog.info? 55).map (fun i => (i.zero, i.size, i.bytes)) = some (some (.agg #[.int .i64 0, .bool false, .slice none 0 0]), 3, 40) := by kernel_rfl
theorem cellzero_noD : NoD (Value.agg #[.int .i64 0, .bool false, .slice none 0 0]).cells.toList := by
  intro u hu n
  simp [Value.cells] at hu
  rcases hu with rfl | rfl | rfl <;> simp
theorem cellcells_noD (c : Int) (b : Bool) (A : Option Addr) (n k : Nat) : NoD (#[Value.int .i64 c, .bool b, .slice A n k]).toList := by
  intro u hu n
  simp at hu
  rcases hu with rfl | rfl | rfl <;> simp
theorem wholeZ_lim {q : Rat} {m a b : Nat} (hq : LimQ q a) (hm : lim (m : Int) ≤ b) : lim (wholeZ q m) ≤ a + b := by
  unfold wholeZ
  exact Nat.le_trans (lim_natAbs (natAbs_tdiv_le _ _)) (Nat.le_trans (lim_mul _ _) (by have := hq.1; omega))
def Stab (P : World → Prop) (w : World) : Prop := ∀ w', StayR w w' → P w'
theorem Stab.here {P : World → Prop} {w : World} (h : Stab P w) : P w := h w (StayR.refl w)
theorem Stab.step {P : World → Prop} {w w' : World} (h : Stab P w) (hs : StayR w w') : Stab P w' := fun w'' k => h w'' (hs.trans k)
theorem Stab.more {P : World → Prop} {w w' : World} (h : Stab P w) (hg : w.grownBy w' none) : Stab P w' := h.step (StayR.none hg)
theorem OwnQ.cellStab {w : World} {base : Nat} {e : TypeId} {v : Value} {n : Nat} {xs : List Value} {L : List (Int × Int)} (h : OwnQ w base e 3 v n xs) (hi : RecR 3 (CellV w) xs L) (hn : n = L.length) : Stab (fun w' => CellRow w' v (L.map cellZ)) w := by
  intro w' hst
  obtain ⟨A, c, rfl, h1, h2, h3⟩ := h.recs hi hn
  refine ⟨A, c, by simp, by simpa using h1, h2, fun hp => ?_⟩
  have hp' : 0 < L.length := by simpa using hp
  obtain ⟨b, rfl, h4⟩ := h3 hp'
  obtain ⟨cs0, ⟨_, u0, rfl, _⟩, _, hc0⟩ := h4 0 hp'
  have hz : w.cell? ⟨b, 0, none⟩ = some (.int .i64 L[0].1) := by have := hc0 0 (by omega); rw [Nat.zero_mul] at this; exact this
  refine ⟨b, 0, rfl, fun i hi => ?_⟩
  have hil : i < L.length := by simpa using hi
  obtain ⟨cs, ⟨h0, u, rfl, hn⟩, _, hc⟩ := h4 i hil
  have e : (L.map cellZ).getD i cell0 = cellZ L[i] := by rw [List.getD_eq_getElem?_getD, List.getElem?_map, List.getElem?_eq_getElem hil]; rfl
  rw [e]
  refine ⟨u, h0, ?_, ?_, ?_, hst.nums _ _ hn⟩
  · rw [Nat.zero_add]; exact hst.ints b _ _ _ hz (hc 0 (by omega))
  · rw [Nat.zero_add]; exact hst.ints b _ _ _ hz (hc 1 (by omega))
  · rw [Nat.zero_add]; exact hst.ints b _ _ _ hz (hc 2 (by omega))
set_option maxRecDepth 100000 in
set_option maxHeartbeats 40000000 in
theorem scells_calls (w : World) (base rb n r kk K bm m : Nat) (L : List StampP) (hS : SumsS w base rb n L) (hrn : r < n) (hk5 : kk < 5) (hL : LimL L K) (hkb : L.length * (K + 2) + 1 ≤ 200000000) (hll : L.length ≤ 1000000) (hm : IntB w bm (m : Nat)) (hml : lim (m : Int) ≤ 200000000) :
    Calls Tryz.prog 99 #[.pointer (some ⟨rb, r * 5, none⟩), .int .i64 (kk : Int), .pointer (some ⟨bm, 0, none⟩)] w fun e w' => ∃ v, e = .returned v ∧ Stab (fun w' => CellRow w' v ((cellsL L (r * 5 + kk) m).map cellZ)) w' ∧ (cellsL L (r * 5 + kk) m).length ≤ L.length ∧ w.grownBy w' none := by
  obtain ⟨ms, E, hms, hE, hsnd⟩ := hS
  have hil : r * 5 + kk < ms.length := by omega
  have i0 : (0 : Int) ≤ (kk : Int) := by omega
  have i1 : (kk : Int) < 5 := by omega
  obtain ⟨om, hmo⟩ : ∃ o, ms[r * 5 + kk]? = some o := ⟨_, List.getElem?_eq_getElem hil⟩
  have hcell := hE.cell hmo
  have HE := Lib.hid hE
  have HSND := Lib.hid hsnd
  have HL := Lib.hid hL
  have HKB := Lib.hid hkb
  have HM := Lib.hid hm
  have HML := Lib.hid hml
  have HMO := Lib.hid hmo
  clear hE hsnd hL hkb hm hml hmo
  go_enter Tryz.func99, Tryz.ntmps99
  go_wp2_with fail
  refine (Keys_calls w om).mono ?_
  rintro e w0 ⟨rfl, rfl⟩
  go_wp2_with fail
  refine (cols_calls w om L.length (fun c => (E (r * 5 + kk) c).map Prod.fst) (fun mb h => by subst h; exact (HE.out.maps _ _ HMO.out).2) (fun h c => by subst h; rw [HE.out.nil _ c HMO.out]; rfl) hll).mono ?_
  rintro e w1 ⟨v, S, rfl, hrise, hmem, hrow, hslen, hg1⟩
  obtain ⟨A, c, rfl, _, _, _⟩ := id hrow
  rw [ints_length] at *
  have HCOLS : Hid (S = colsOf L (r * 5 + kk)) := Lib.hid (cols_of hrise fun c => by
    rw [hmem c]
    have h5 := HSND.out (r * 5 + kk) c
    show ((E (r * 5 + kk) c).map Prod.fst).isSome = true ↔ _
    cases hx : E (r * 5 + kk) c with
    | none => rw [hx] at h5; split at h5
              · simp at h5
              · rename_i hh; simp [hh]
    | some bq => rw [hx] at h5; split at h5
                 · rename_i hh; simp [hh]
                 · simp at h5)
  have HMEM := Lib.hid hmem
  have HROW := Lib.hid hrow
  have HG1 := Lib.hid hg1
  clear hrise hmem hrow hg1 hcell
  go_wp2_with fail
  go_loopw [7, 20] (fun bv iv wr => ∃ k cnt : Nat, k ≤ S.length ∧ iv = .int .i64 k ∧ cnt ≤ k ∧ w1.grownBy wr none ∧ Hid (∃ xs, OwnQ wr w1.heap.size 55 3 bv cnt xs ∧ RecR 3 (CellV wr) xs ((S.take k).filterMap (cellOf L (r * 5 + kk) m)) ∧ cnt = ((S.take k).filterMap (cellOf L (r * 5 + kk) m)).length)) (fun _ iv _ => (S.length - intOf iv).toNat)
  case atStart => exact ⟨0, 0, by omega, rfl, by omega, gb_refl _ _, Lib.hid ⟨[], OwnQ.nil _ _ _ _, rfl, rfl⟩⟩
  case round =>
    obtain ⟨k, cnt, hk, rfl, hck, hg, hown⟩ := hrel
    by_cases hlt : k < S.length
    · obtain ⟨b, o, rfl, u0⟩ := rowint_at (HROW.out) hlt
      have u0 := gb_cell hg u0 (by simp)
      have hcs : (E (r * 5 + kk) (S.getD k 0)).isSome = true := by
        have := (HMEM.out (S.getD k 0)).1 (by rw [List.getD_eq_getElem?_getD, List.getElem?_eq_getElem hlt]; exact List.getElem_mem _)
        have h2 : ((E (r * 5 + kk) (S.getD k 0)).map Prod.fst).isSome = true := this
        rwa [Option.isSome_map] at h2
      have htake : (S.take (k + 1)).filterMap (cellOf L (r * 5 + kk) m) = (S.take k).filterMap (cellOf L (r * 5 + kk) m) ++ (cellOf L (r * 5 + kk) m (S.getD k 0)).toList := by
        rw [List.take_add_one, List.getD_eq_getElem?_getD, List.getElem?_eq_getElem hlt, List.filterMap_append]
        simp only [Option.toList_some, Option.getD_some]
        cases hx : cellOf L (r * 5 + kk) m S[k] <;> simp [hx]
      generalize S.getD k 0 = c at *
      obtain ⟨bq, hEc⟩ := Option.isSome_iff_exists.1 hcs
      obtain ⟨b2, q⟩ := bq
      have hq := snd_some HSND.out hEc
      rw [hq] at hEc
      have hom : ∃ mb, om = some mb := by
        cases om with
        | none => rw [HE.out.nil _ c HMO.out] at hEc; cases hEc
        | some mb => exact ⟨mb, rfl⟩
      obtain ⟨mb, rfl⟩ := hom
      have gw := gb_trans HG1.out hg
      have hcell := gb_cell gw (HE.out.cell HMO.out) (by simp)
      have hmap := ((HE.out.more gw).maps _ _ HMO.out).2
      have hIc : I64 c := hmap.1 c b2 (show (E (r * 5 + kk) c).map Prod.fst = _ by rw [hEc]; rfl)
      have hrat := ((HE.out.more gw).rats _ _ _ _ hEc).2
      have hF : (E (r * 5 + kk) c).map Prod.fst = some b2 := by rw [hEc]; rfl
      have HRAT := Lib.hid hrat
      have HTAKE := Lib.hid htake
      have HGW := Lib.hid gw
      have HLT := Lib.hid hlt
      have HEC := Lib.hid hEc
      have HCK := Lib.hid hck
      clear hrat htake gw hcs hq hEc hck
      go_wp2_with (first
        | (at_lookup; refine wpList_lookB1 rfl _ _ rfl c hIc hmap rfl rfl (.pointer (some ⟨b2, 0, none⟩)) (by rw [hF]; rfl) ?_)
        | fail)
      refine (RSign_calls wr b2 _ HRAT.out).mono ?_
      rintro e w' ⟨rfl, rfl⟩
      by_cases hz : accQ L (r * 5 + kk) c = 0
      · have t0 : ((accQ L (r * 5 + kk) c).num.sign != 0) = false := by rw [hz]; rfl
        have HZ : Hid (cellOf L (r * 5 + kk) m c = none) := Lib.hid (by unfold cellOf; rw [if_pos hz])
        clear hz
        go_wp2_with fail
        have hlt := HLT.out
        have hck := HCK.out
        exact ⟨⟨k + 1, cnt, by omega, by go_num, by omega, hg, Lib.hid (by rw [HTAKE.out, HZ.out, Option.toList_none, List.append_nil]; exact hown.out)⟩, by simp [intOf]; omega⟩
      · have hns : (accQ L (r * 5 + kk) c).num ≠ 0 := fun e => hz (Rat.num_eq_zero.1 e)
        have t0 : ((accQ L (r * 5 + kk) c).num.sign != 0) = true := by rw [bne_iff_ne]; exact fun e => hns (Int.sign_eq_zero_iff_zero.1 e)
        have HZ : Hid (cellOf L (r * 5 + kk) m c = some (c, wholeZ (accQ L (r * 5 + kk) c) m)) := Lib.hid (by unfold cellOf; rw [if_neg hz])
        have hla := (accQ_lim HL.out (r * 5 + kk) c).mono HKB.out
        have HLW := Lib.hid (wholeZ_lim hla HML.out)
        have HLA := Lib.hid hla
        have HGX := Lib.hid hg
        have HIC := Lib.hid hIc
        clear hz hns hla hmap hcell hg
        go_wp2_with fail
        refine (times_calls wr b2 bm _ _ HRAT.out (HM.out.more HGW.out) HLA.out HML.out).mono ?_
        rintro e w2 ⟨b3, rfl, hi3, hb3, hg3⟩
        have hi3 : IntB w2 b3 (wholeZ (accQ L (r * 5 + kk) c) m) := hi3
        generalize hzz : wholeZ (accQ L (r * 5 + kk) c) m = z at *
        clear hzz
        have HI3 := Lib.hid hi3
        have HG3 := Lib.hid hg3
        clear hi3 hb3 hg3
        go_wp2_with fail
        refine (Give_calls w2 b3 0 z HI3.out.at (Nat.le_trans HLW.out (by omega))).mono ?_
        rintro e w3 ⟨v3, rfl, hn3, hf3, hg4⟩
        obtain ⟨A3, n3, c3, rfl⟩ := hn3.ctor
        have HN3 := Lib.hid hn3
        have HG4 := Lib.hid (gb_trans HG3.out hg4)
        obtain ⟨xs, ho1, ho2, ho3⟩ := hown.out
        have HO1 := Lib.hid (ho1.more HG4.out)
        have HO2 := Lib.hid (ho2.imp (R' := CellV w3) fun cs a h => h.row HG4.out (fun r h => by cases h))
        have HO3 := Lib.hid ho3
        have hsw : w1.heap.size ≤ w3.heap.size := (gb_trans HGX.out HG4.out).size
        clear hn3 hf3 hg4 ho1 ho2 ho3 hown
        go_wp2_with (first
          | (at_builtin; refine app_one_q w1.heap.size rfl (.tmp 35) (.tmp 42) 50 55 (.agg #[.int .i64 0, .bool false, .slice none 0 0]) 3 40 rfl Tryz.underlying50 cellinfo rfl (by omega) (by omega) u7 cnt xs #[.int .i64 c, .bool (decide (z < 0)), .slice A3 n3 c3] (by rfl) HO1.out (by rfl) (by rfl) (by simp [Value.oneCell']) (by have := HCK.out; omega) (by omega) (cellcells_noD _ _ _ _ _) cellzero_noD ?_; intro g cap w5 hown5 hg5; have H5 := Lib.hid (And.intro hown5 hg5); clear hown5 hg5)
          | fail)
        have hlt := HLT.out
        have hck := HCK.out
        have hpl : ∀ r, u7.ownBlock = some r → Plain (w3.alloc (.cells #[.int .i64 c, .bool (decide (z < 0)), .slice A3 n3 c3] 55)) r := fun r h => (HO1.out.more (gb_alloc _ _ _)).2 r h
        refine ⟨⟨k + 1, cnt + 1, by omega, by go_num, by omega, gb_own (gb_trans (gb_trans HGX.out HG4.out) (gb_alloc _ _ _)) (HO1.out.more (gb_alloc _ _ _)) H5.out.2, Lib.hid ⟨_, H5.out.1, ?_, ?_⟩⟩, by simp [intOf]; omega⟩
        · rw [HTAKE.out, HZ.out]
          exact RecR.snoc (k := 3) (ys := [.int .i64 c, .bool (decide (z < 0)), .slice A3 n3 c3]) (a := (c, z)) rfl (show CellV w5 _ (c, z) from ⟨HIC.out, .slice A3 n3 c3, rfl, ((HN3.out.more (gb_alloc _ _ _)).row H5.out.2 hpl)⟩) (HO2.out.imp fun cs a h => (h.row (gb_alloc _ _ none) (fun r h => by cases h)).row H5.out.2 hpl)
        · rw [HTAKE.out, HZ.out, List.length_append, ← HO3.out]; rfl
    · obtain rfl : k = S.length := by omega
      obtain ⟨xs, h1, h2, h3⟩ := hown.out
      rw [List.take_of_length_le (Nat.le_refl _)] at h2 h3
      have HCR := Lib.hid (OwnQ.cellStab h1 h2 h3)
      have HC := HCOLS
      clear hown h1 h2 h3
      go_wp2_with fail
      go_ret
      refine ⟨_, rfl, ?_, ?_, gb_trans HG1.out hg⟩
      · unfold cellsL
        rw [← HC.out]; exact HCR.out
      · unfold cellsL
        rw [← HC.out]; exact Nat.le_trans (List.length_filterMap_le _ _) hslen

end Go.Proofs.YtmfmfpmkgmkgiaaGreatDoor
