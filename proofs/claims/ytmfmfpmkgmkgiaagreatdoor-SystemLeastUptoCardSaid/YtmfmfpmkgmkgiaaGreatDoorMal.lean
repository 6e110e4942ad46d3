/- Contracts of the program's functions, and what they rest on: FlatF SysC WavB. -/
import Derived.Test.YtmfmfpmkgmkgiaaGreatDoorMak
import Derived.Test.YtmfmfpmkgmkgiaaGreatDoorMai
import Derived.Test.YtmfmfpmkgmkgiaaGreatDoorMah
import Derived.Test.YtmfmfpmkgmkgiaaGreatDoorMag
import Derived.Test.YtmfmfpmkgmkgiaaGreatDoorMaf
import Derived.Test.YtmfmfpmkgmkgiaaGreatDoorMae
set_option linter.unusedVariables false
set_option linter.unusedSimpArgs false
namespace Go.Proofs.YtmfmfpmkgmkgiaaGreatDoor
open Go.RowKit Go.Maps

structure FlatP where
  nodes : List ByteArray
  devs : List DevP
  step : Int × Int
  method : Int
def zeroS : ByteArray := ⟨#[48]⟩
def headB (f : FlatP) : Bool := numOK f.step && decide (0 < f.step.1) && (decide (f.method = 1) || decide (f.method = 2))
def nodesHB (f : FlatP) : Bool := decide (1 ≤ f.nodes.length) && decide (f.nodes.length ≤ 32) && decide (f.nodes.getD 0 default = zeroS) && decide (f.devs.length ≤ 64) && decide f.nodes.Nodup
def names (ds : List DevP) : List ByteArray := ds.map (·.name)
def devsB (f : FlatP) : Bool := decide (∀ i, i < f.devs.length → devB f.nodes.length f.devs (f.devs.getD i dev0) = true)
def unk (f : FlatP) : Int := (f.nodes.length : Int) - 1 + nbr f.devs f.devs.length
def flatE (f : FlatP) : Int :=
  if headB f && nodesHB f && f.nodes.all longOK && devsB f && decide (names f.devs).Nodup then (if unk f ≤ 48 then 0 else 5) else 90
structure FlatAt (w : World) (f : FlatP) (A1 : Option Addr) (c1 : Nat) (A2 : Option Addr) (c2 : Nat) : Prop where
  nodes : Row w (.slice A1 f.nodes.length c1) (strs f.nodes)
  nsz : ∀ s ∈ f.nodes, s.size < 4294967281
  devs : DevRow w (.slice A2 f.devs.length c2) f.devs
  s1 : I64 f.step.1
  s2 : I64 f.step.2
  me : I64 f.method
  n1 : f.nodes.length ≤ 1099511627776
  n2 : f.devs.length ≤ 1099511627776
theorem FlatAt.more {w w' : World} {f : FlatP} {A1 A2 : Option Addr} {c1 c2 : Nat} (h : FlatAt w f A1 c1 A2 c2) (hg : w.grownBy w' none) : FlatAt w' f A1 c1 A2 c2 :=
  ⟨h.nodes.more hg, h.nsz, h.devs.more hg, h.s1, h.s2, h.me, h.n1, h.n2⟩
theorem names_take (ds : List DevP) (k : Nat) : (names ds).take k = names (ds.take k) := by simp [names, List.map_take]
theorem names_succ {ds : List DevP} {k : Nat} (h : k < ds.length) : names (ds.take (k + 1)) = names (ds.take k) ++ [(ds.getD k dev0).name] := by
  rw [List.take_succ_eq_append_getElem h, names, names, List.map_append]
  simp [List.getD, List.getElem?_eq_getElem h]
theorem strs_append (l r : List ByteArray) : strs (l ++ r) = strs l ++ strs r := by simp [strs]
theorem names_length (ds : List DevP) : (names ds).length = ds.length := by simp [names]
theorem own_more {w w' : World} {base : Nat} {e : TypeId} {size n : Nat} {v : Value} {xs : List Value} (h : w.ownsRow base e size v n xs) (hg : w.grownBy w' none) : w'.ownsRow base e size v n xs :=
  h.kept hg (by cases v.ownBlock <;> simp)
theorem strinfo : (Tryz.prog.info? 9).map (fun i => (i.zero, i.size, i.bytes)) = some (some (.string ByteArray.empty), 1, 16) := by kernel_rfl
structure FlatBox (w : World) (b : Nat) (f : FlatP) (A1 : Option Addr) (c1 : Nat) (A2 : Option Addr) (c2 : Nat) : Prop where
  c0 : w.cell? ⟨b, 0, none⟩ = some (.slice A1 f.nodes.length c1)
  c1 : w.cell? ⟨b, 1, none⟩ = some (.slice A2 f.devs.length c2)
  c2 : w.cell? ⟨b, 2, none⟩ = some (.int .i64 f.step.1)
  c3 : w.cell? ⟨b, 3, none⟩ = some (.int .i64 f.step.2)
  c4 : w.cell? ⟨b, 4, none⟩ = some (.int .i64 f.method)
theorem FlatBox.of {w : World} {b : Nat} {f : FlatP} {A1 A2 : Option Addr} {c1 c2 : Nat} (h : Blk w b #[.slice A1 f.nodes.length c1, .slice A2 f.devs.length c2, .int .i64 f.step.1, .int .i64 f.step.2, .int .i64 f.method]) : FlatBox w b f A1 c1 A2 c2 :=
  ⟨h.cell 0, h.cell 1, h.cell 2, h.cell 3, h.cell 4⟩
theorem FlatBox.more {w w' : World} {b : Nat} {f : FlatP} {A1 A2 : Option Addr} {c1 c2 : Nat} (h : FlatBox w b f A1 c1 A2 c2) (hg : w.grownBy w' none) : FlatBox w' b f A1 c1 A2 c2 :=
  ⟨gb_cell hg h.c0 (by simp), gb_cell hg h.c1 (by simp), gb_cell hg h.c2 (by simp), gb_cell hg h.c3 (by simp), gb_cell hg h.c4 (by simp)⟩

set_option maxRecDepth 100000 in
set_option maxHeartbeats 40000000 in
theorem FCheck_calls (w : World) (f : FlatP) (A1 : Option Addr) (c1 : Nat) (A2 : Option Addr) (c2 : Nat) (hf : FlatAt w f A1 c1 A2 c2) (hG : GlobOK w) :
    Calls Tryz.prog 40 #[.agg #[.slice A1 f.nodes.length c1, .slice A2 f.devs.length c2, .int .i64 f.step.1, .int .i64 f.step.2, .int .i64 f.method]] w fun e w' => e = .returned (.int .i64 (flatE f)) ∧ w.grownBy w' none := by
  obtain ⟨R, hR⟩ : ∃ R, flatE f = R := ⟨_, rfl⟩
  rw [hR]
  have HR := Lib.hid hR
  clear hR
  have gw := gb_alloc w (.cells #[.slice A1 f.nodes.length c1, .slice A2 f.devs.length c2, .int .i64 f.step.1, .int .i64 f.step.2, .int .i64 f.method] 27) none
  have hB := FlatBox.of (Blk.new w #[.slice A1 f.nodes.length c1, .slice A2 f.devs.length c2, .int .i64 f.step.1, .int .i64 f.step.2, .int .i64 f.method] 27)
  have hN := NValid_calls (w.alloc (.cells #[.slice A1 f.nodes.length c1, .slice A2 f.devs.length c2, .int .i64 f.step.1, .int .i64 f.step.2, .int .i64 f.method] 27)) f.step.1 f.step.2 hf.s1.1 hf.s1.2 hf.s2.1 hf.s2.2
  obtain ⟨N, hNN⟩ : ∃ N, decide (NumOK f.step.1 f.step.2) = N := ⟨_, rfl⟩
  rw [hNN] at hN
  have HN : Hid (numOK f.step = N) := Lib.hid hNN
  have HC := Lib.hid hN
  have HF := Lib.hid hf
  have HG := Lib.hid hG
  clear hN hNN hf hG
  obtain ⟨p0, p1, p2, p3, p4⟩ := hB
  have HB := Lib.hid (FlatBox.mk p0 p1 p2 p3 p4)
  go_enter Tryz.func40, Tryz.ntmps40
  go_wp2_with fail
  generalize w.alloc (.cells #[.slice A1 f.nodes.length c1, .slice A2 f.devs.length c2, .int .i64 f.step.1, .int .i64 f.step.2, .int .i64 f.method] 27) = wa at *
  generalize w.heap.size = s at *
  refine HC.out.mono ?_
  rintro e w1 ⟨rfl, hg1⟩
  have HB1 := Lib.hid (HB.out.more hg1)
  clear p0 p1 p2 p3 p4
  obtain ⟨p0, p1, p2, p3, p4⟩ := HB1.out
  have HG1 := Lib.hid (gb_trans gw hg1)
  clear gw hg1 HB HC
  cases hh : headB f with
  | false =>
    have HH := Lib.hid hh
    have hfin : R = 90 := by rw [← HR.out]; unfold flatE; simp [hh]
    have HFIN := Lib.hid hfin
    clear hfin hh
    cases N with
    | false =>
      go_wp2_with fail
      go_ret
      exact ⟨ret_int HFIN.out.symm, HG1.out⟩
    | true =>
      by_cases h1 : f.step.1 ≤ 0
      · go_wp2_with fail
        go_ret
        exact ⟨ret_int HFIN.out.symm, HG1.out⟩
      · have m1 : (f.method != 1) = true := by
          rw [bne_iff_ne]; intro h; have := HH.out; simp [headB, HN.out, h] at this; omega
        have m2 : (f.method != 2) = true := by
          rw [bne_iff_ne]; intro h; have := HH.out; simp [headB, HN.out, h] at this; omega
        go_wp2_with fail
        go_ret
        exact ⟨ret_int HFIN.out.symm, HG1.out⟩
  | true =>
    have hh' := hh
    unfold headB at hh'
    rw [HN.out] at hh'
    simp only [Bool.and_eq_true, Bool.or_eq_true, decide_eq_true_eq] at hh'
    obtain ⟨⟨hn, hs⟩, hm⟩ := hh'
    have HH := Lib.hid hh
    subst hn
    have h1 : ¬ f.step.1 ≤ 0 := by omega
    have hmm : ((f.method != 1) = false) ∨ ((f.method != 1) = true ∧ (f.method != 2) = false) := by
      rw [bne_eq_false_iff_eq, bne_iff_ne, bne_eq_false_iff_eq]; omega
    clear hh hs hm
    have hrw : ∀ w2, w1.grownBy w2 none → FlatAt w2 f A1 c1 A2 c2 := fun w2 h => HF.out.more (gb_trans HG1.out h)
    have HRW := Lib.hid hrw
    have hU : R = (if nodesHB f && f.nodes.all longOK && devsB f && decide (names f.devs).Nodup then (if unk f ≤ 48 then 0 else 5) else 90) := by rw [← HR.out]; unfold flatE; rw [HH.out]; rfl
    have HU := Lib.hid hU
    clear hrw hU HR
    by_cases b1 : 1 ≤ f.nodes.length
    case neg =>
      have hfin : R = 90 := by rw [HU.out]; simp [nodesHB, b1]
      have HFIN := Lib.hid hfin
      have b1' : (f.nodes.length : Int) < 1 := by omega
      clear hfin
      rcases hmm with hmm | ⟨hmm, hmm2⟩
      all_goals
        go_wp2_with fail
        go_ret
        exact ⟨ret_int HFIN.out.symm, HG1.out⟩
    have b1' : ¬ (f.nodes.length : Int) < 1 := by omega
    by_cases b2 : f.nodes.length ≤ 32
    case neg =>
      have hfin : R = 90 := by rw [HU.out]; simp [nodesHB, b2]
      have HFIN := Lib.hid hfin
      have b2' : (32 : Int) < (f.nodes.length : Int) := by omega
      clear hfin
      rcases hmm with hmm | ⟨hmm, hmm2⟩
      all_goals
        go_wp2_with fail
        go_ret
        exact ⟨ret_int HFIN.out.symm, HG1.out⟩
    have b2' : ¬ (32 : Int) < (f.nodes.length : Int) := by omega
    have hn0 : ∃ b o, A1 = some ⟨b, o, none⟩ ∧ w1.cell? ⟨b, o, none⟩ = some (.string (f.nodes.getD 0 default)) := by
      have hr := (HF.out.more HG1.out).nodes
      rcases hr.open with ⟨b, o, c, e, _, _, hc⟩ | ⟨_, _, _, _, _, h0⟩
      · injection e with e1 e2 e3
        subst e1
        rw [strs_length] at hc
        exact ⟨b, o, rfl, (hc 0 (by omega)).trans (strs_get _ _ (by omega))⟩
      · have := congrArg List.length h0; simp [strs] at this; rw [this] at b1; simp at b1
    obtain ⟨b, o, rfl, q0⟩ := hn0
    generalize hx : f.nodes.getD 0 default = x at *
    have HX := Lib.hid hx
    clear hx
    have hxz : x = zeroS ↔ x.toList = [48] := by
      rw [Lib.toList_data]
      constructor
      · rintro rfl; rfl
      · intro h
        cases x with | mk a => cases a with | mk l => simp at h; subst h; rfl
    have HXZ := Lib.hid hxz
    clear hxz
    by_cases b3 : x.toList = [48]
    case neg =>
      have hfin : R = 90 := by rw [HU.out]; simp [nodesHB]; intro _ _ h; exact absurd (HXZ.out.1 (by rw [← HX.out]; simpa [List.getD] using h)) b3
      have HFIN := Lib.hid hfin
      have b3' : (x.toList == [48]) = false := by rw [beq_eq_false_iff_ne]; exact b3
      clear hfin
      rcases hmm with hmm | ⟨hmm, hmm2⟩
      all_goals
        go_wp2_with fail
        go_ret
        exact ⟨ret_int HFIN.out.symm, HG1.out⟩
    have b3' : (x.toList == [48]) = true := by rw [beq_iff_eq]; exact b3
    have HB3 := Lib.hid b3
    clear b3
    by_cases b4 : f.devs.length ≤ 64
    case neg =>
      have hfin : R = 90 := by rw [HU.out]; simp [nodesHB, b4]
      have HFIN := Lib.hid hfin
      have b4' : (64 : Int) < (f.devs.length : Int) := by omega
      clear hfin
      rcases hmm with hmm | ⟨hmm, hmm2⟩
      all_goals
        go_wp2_with fail
        go_ret
        exact ⟨ret_int HFIN.out.symm, HG1.out⟩
    have b4' : ¬ (64 : Int) < (f.devs.length : Int) := by omega
    have hT := twice_calls w1 (.slice (some ⟨b, o, none⟩) f.nodes.length c1) f.nodes (HRW.out w1 (gb_refl _ _)).nodes (fun s hs => by have := HF.out.nsz s hs; omega) (by omega)
    obtain ⟨T, hTT⟩ : ∃ T, decide (¬ f.nodes.Nodup) = T := ⟨_, rfl⟩
    rw [hTT] at hT
    have HT := Lib.hid hT
    have HTT := Lib.hid hTT
    clear hT hTT
    cases T with
    | true =>
      have hfin : R = 90 := by
        have := of_decide_eq_true HTT.out
        rw [HU.out]; simp [nodesHB, this]
      have HFIN := Lib.hid hfin
      clear hfin
      rcases hmm with hmm | ⟨hmm, hmm2⟩
      all_goals
        go_wp2_with fail
        refine HT.out.mono ?_
        rintro e w2 ⟨rfl, hg2⟩
        go_wp2_with fail
        go_ret
        exact ⟨ret_int HFIN.out.symm, gb_trans HG1.out hg2⟩
    | false =>
      have hU2 : R = (if f.nodes.all longOK && devsB f && decide (names f.devs).Nodup then (if unk f ≤ 48 then 0 else 5) else 90) := by
        have h5 := of_decide_eq_false HTT.out
        have h3 : f.nodes.getD 0 default = zeroS := by rw [HX.out]; exact HXZ.out.2 HB3.out
        rw [HU.out]
        have : nodesHB f = true := by
          unfold nodesHB
          rw [h3]
          simp only [Decidable.not_not] at h5
          simp [b1, b2, b4, h5]
        rw [this]; simp only [Bool.true_and]
      have HU2 := Lib.hid hU2
      clear hU2 HU b1 b4 HX HXZ HTT HH HN
      rcases hmm with hmm | ⟨hmm, hmm2⟩
      all_goals
        go_wp2_with fail
        refine HT.out.mono ?_
        rintro e w2 ⟨rfl, hg2⟩
        have HB2 := Lib.hid (HB1.out.more hg2)
        clear p0 p1 p2 p3 p4 q0
        obtain ⟨p0, p1, p2, p3, p4⟩ := HB2.out
        have HG2 := Lib.hid (gb_trans HG1.out hg2)
        have HF2 := Lib.hid (HF.out.more (gb_trans HG1.out hg2))
        clear hg2 HT HRW
        go_wp2_with fail
        go_loopw [61] (fun i wr => ∃ k : Nat, k ≤ f.nodes.length ∧ i = .int .i64 k ∧ w2.grownBy wr none ∧ Hid (∀ t, t < k → longOK (f.nodes.getD t default) = true)) (fun i _ => (f.nodes.length - intOf i).toNat)
        case atStart => exact ⟨0, by omega, rfl, gb_refl _ _, Lib.hid (fun t ht => by omega)⟩
        case round =>
          obtain ⟨k, hk, rfl, hg, hb⟩ := hrel
          by_cases hlt : k < f.nodes.length
          · have hcell : wr.cell? ⟨b, o + k, none⟩ = some (.string (f.nodes.getD k default)) := by
              rcases (HF2.out.more hg).nodes.open with ⟨b', o', c, e, _, _, hc⟩ | ⟨_, _, _, _, _, h0⟩
              · injection e with e1 e2 e3
                injection e1 with e1
                injection e1 with e4 e5
                subst e4 e5
                rw [strs_length] at hc
                exact (hc k hlt).trans (strs_get _ _ hlt)
              · have := congrArg List.length h0; rw [strs_length] at this; simp at this; rw [this] at hlt; simp at hlt
            have hsz : (f.nodes.getD k default).size < 4294967281 := HF.out.nsz _ (by simp [List.getD, List.getElem?_eq_getElem hlt])
            have hgl := HG.out.more (gb_trans HG2.out hg)
            generalize hx1 : f.nodes.getD k default = x1 at *
            have HX1 := Lib.hid hx1
            clear hx1
            go_wp2_with fail
            refine (flong_calls wr x1 hgl hsz).mono ?_
            rintro e w3 ⟨rfl, hg3⟩
            cases hl : longOK x1 with
            | false =>
              have hfin : R = 90 := by
                have : f.nodes.all longOK = false := by
                  rw [List.all_eq_false]
                  exact ⟨x1, by rw [← HX1.out]; simp [List.getD, List.getElem?_eq_getElem hlt], by simp [hl]⟩
                rw [HU2.out, this]; rfl
              have HFIN := Lib.hid hfin
              clear hfin hl
              go_wp2_with fail
              go_ret
              exact ⟨ret_int HFIN.out.symm, gb_trans HG2.out (gb_trans hg hg3)⟩
            | true =>
              have HL := Lib.hid hl
              clear hl
              go_wp2_with fail
              exact ⟨⟨k + 1, by omega, by go_num, gb_trans hg hg3, Lib.hid (fun t ht => by
                by_cases htk : t = k
                · subst htk; rw [HX1.out]; exact HL.out
                · exact hb.out t (by omega))⟩, by simp [intOf]; omega⟩
          · obtain rfl : k = f.nodes.length := by omega
            have hU3 : R = (if devsB f && decide (names f.devs).Nodup then (if unk f ≤ 48 then 0 else 5) else 90) := by
              have : f.nodes.all longOK = true := by
                rw [List.all_eq_true]
                intro x hx
                obtain ⟨j, hj, rfl⟩ := List.mem_iff_getElem.1 hx
                have := hb.out j hj
                rwa [show f.nodes.getD j default = f.nodes[j] by simp [List.getD, List.getElem?_eq_getElem hj]] at this
              rw [HU2.out, this]; simp only [Bool.true_and]
            have HU3 := Lib.hid hU3
            have HB3' := Lib.hid (HB2.out.more hg)
            have HG3 := Lib.hid (gb_trans HG2.out hg)
            have HF3 := Lib.hid (HF2.out.more hg)
            clear hU3 hb hk hlt hg HU2 HB2 HF2 HB1 HB3 HG1 p0 p1 p2 p3 p4 b1' b2' b3' b4'
            obtain ⟨wo, rfl⟩ : ∃ wo : World, wo = wr := ⟨_, rfl⟩
            obtain ⟨p0, p1, p2, p3, p4⟩ := HB3'.out
            go_wp2_with fail
            go_loopw [5, 72] (fun v i wr => ∃ k : Nat, k ≤ f.devs.length ∧ i = .int .i64 k ∧ wr.ownsRow wo.heap.size 9 1 v k (strs (names (f.devs.take k))) ∧ wo.grownBy wr none ∧ Hid (∀ t, t < k → devB f.nodes.length f.devs (f.devs.getD t dev0) = true)) (fun _ i _ => (f.devs.length - intOf i).toNat)
            case atStart => exact ⟨0, by omega, rfl, World.ownsRow_nil _ _ _ _, gb_refl _ _, Lib.hid (fun t ht => by omega)⟩
            case round =>
              obtain ⟨k, hk, rfl, hown, hg, hb⟩ := hrel
              by_cases hlt : k < f.devs.length
              · obtain ⟨b2, o2, An, cn, Av, cv, As, cs, Ag, cg, Am, cm, rfl, hat, hc⟩ := (HF3.out.more hg).devs.at2 hlt
                have hnsu := names_succ hlt
                have hdrow := (HF3.out.more hg).devs
                have hgl := HG.out.more (gb_trans HG3.out hg)
                obtain ⟨m0, m1, m2, m3, m4⟩ := HB3'.out.more hg
                generalize hd : f.devs.getD k dev0 = d at *
                have HD := Lib.hid hd
                obtain ⟨q0, q1, q2, q3, q4, q5, q6, q7, q8, q9, q10, q11, q12⟩ := hc
                have ga := gb_alloc wr (.cells #[.int .u8 d.kind, .string d.name, .slice An d.nodes.length cn, .int .i64 d.ref, .int .i64 d.val.1, .int .i64 d.val.2, .int .i64 d.wkind, .slice Av d.wvals.length cv, .slice As d.wsteps.length cs, .string d.mname, .int .u8 d.mkind, .slice Ag d.mg.length cg, .slice Am d.mv.length cm] 89) none
                have hDB := DevBox.of (Blk.new wr #[.int .u8 d.kind, .string d.name, .slice An d.nodes.length cn, .int .i64 d.ref, .int .i64 d.val.1, .int .i64 d.val.2, .int .i64 d.wkind, .slice Av d.wvals.length cv, .slice As d.wsteps.length cs, .string d.mname, .int .u8 d.mkind, .slice Ag d.mg.length cg, .slice Am d.mv.length cm] 89)
                have HDB := Lib.hid hDB
                obtain ⟨r0, r1, r2, r3, r4, r5, r6, r7, r8, r9, r10, r11, r12⟩ := hDB
                have m0 := gb_cell ga m0 (by simp)
                have m1 := gb_cell ga m1 (by simp)
                have m2 := gb_cell ga m2 (by simp)
                have m3 := gb_cell ga m3 (by simp)
                have m4 := gb_cell ga m4 (by simp)
                have hRC := right_calls (wr.alloc (.cells #[.int .u8 d.kind, .string d.name, .slice An d.nodes.length cn, .int .i64 d.ref, .int .i64 d.val.1, .int .i64 d.val.2, .int .i64 d.wkind, .slice Av d.wvals.length cv, .slice As d.wsteps.length cs, .string d.mname, .int .u8 d.mkind, .slice Ag d.mg.length cg, .slice Am d.mv.length cm] 89)) (some ⟨b, o, none⟩) c1 (some ⟨b2, o2, none⟩) c2 f.step.1 f.step.2 f.method f.nodes f.devs d An cn Av cv As cs Ag cg Am cm HF.out.n1 HF.out.n2 (hdrow.more ga) (hat.more ga) (hgl.more ga)
                have HRC := Lib.hid hRC
                have HNS := Lib.hid hnsu
                have hown2 := hown.alloc (.cells #[.int .u8 d.kind, .string d.name, .slice An d.nodes.length cn, .int .i64 d.ref, .int .i64 d.val.1, .int .i64 d.val.2, .int .i64 d.wkind, .slice Av d.wvals.length cv, .slice As d.wsteps.length cs, .string d.mname, .int .u8 d.mkind, .slice Ag d.mg.length cg, .slice Am d.mv.length cm] 89)
                clear hd hRC hnsu hdrow hgl hat
                go_wp2_with fail
                refine HRC.out.mono ?_
                rintro e w3 ⟨rfl, hg3⟩
                cases hdb : devB f.nodes.length f.devs d with
                | false =>
                  have hfin : R = 90 := by
                    have : devsB f = false := by
                      unfold devsB
                      rw [decide_eq_false_iff_not]
                      intro h
                      have := h k hlt
                      rw [HD.out, hdb] at this
                      cases this
                    rw [HU3.out, this]; rfl
                  have HFIN := Lib.hid hfin
                  clear hfin hdb
                  go_wp2_with fail
                  go_ret
                  exact ⟨ret_int HFIN.out.symm, gb_trans HG3.out (gb_trans hg (gb_trans ga hg3))⟩
                | true =>
                  have HDBT := Lib.hid hdb
                  clear hdb r0 r1 r2 r3 r4 r5 r6 r7 r8 r9 r10 r11 r12 q0 q1 q2 q3 q4 q5 q6 q7 q8 q9 q10 q11 q12 m0 m1 m2 m3 m4
                  have r1 := gb_cell hg3 HDB.out.c1 (by simp)
                  have hsb := (gb_trans hg (gb_trans ga hg3)).size
                  have hown3 := own_more hown2 hg3
                  go_wp2_with (first
                    | (at_builtin; refine app_one wo.heap.size rfl (.tmp 80) (.tmp 83) 22 9 (.string ByteArray.empty) 1 16 rfl Tryz.underlying22 strinfo rfl (by omega) (by omega) u5 k (strs (names (f.devs.take k))) #[.string d.name] (by rfl) hown3 (by rfl) rfl (by simp [Value.oneCell']) (by omega) (by omega) ?_; intro v1 w4 hown4 hg4 hat4)
                    | go_in)
                  go_roundw
                  case rel => exact ⟨k + 1, by omega, by go_num, by rw [HNS.out, strs_append]; exact hown4, gb_from (gb_trans hg (gb_trans ga hg3)) hg4 (own_from hown3), Lib.hid (fun t ht => by
                    by_cases htk : t = k
                    · subst htk; rw [HD.out]; exact HDBT.out
                    · exact hb.out t (by omega))⟩
                  case measure => simp [intOf]; omega
              · obtain rfl : k = f.devs.length := by omega
                have hdb : devsB f = true := by unfold devsB; rw [decide_eq_true_iff]; exact hb.out
                have hU4 : R = (if decide (names f.devs).Nodup then (if unk f ≤ 48 then 0 else 5) else 90) := by rw [HU3.out, hdb]; simp only [Bool.true_and]
                have HU4 := Lib.hid hU4
                have hr := own_row hown
                rw [List.take_length] at hr
                have hnz : ∀ s ∈ names f.devs, s.size ≤ 9223372036854775807 := by
                  intro s hs
                  unfold names at hs
                  rw [List.mem_map] at hs
                  obtain ⟨d, hd, rfl⟩ := hs
                  obtain ⟨j, hj, rfl⟩ := List.mem_iff_getElem.1 hd
                  obtain ⟨_, _, _, _, _, _, _, _, _, _, _, _, _, hat, _⟩ := (HF3.out.more hg).devs.at2 hj
                  have := hat.name
                  rw [show f.devs.getD j dev0 = f.devs[j] by simp [List.getD, List.getElem?_eq_getElem hj]] at this
                  omega
                have hT := twice_calls wr _ (names f.devs) hr hnz (by rw [names_length]; omega)
                obtain ⟨T, hTT⟩ : ∃ T, decide (¬ (names f.devs).Nodup) = T := ⟨_, rfl⟩
                rw [hTT] at hT
                have HT2 := Lib.hid hT
                have HTT := Lib.hid hTT
                have HG4 := Lib.hid (gb_trans HG3.out hg)
                have HF4 := Lib.hid (HF3.out.more hg)
                have HB4 := Lib.hid (HB3'.out.more hg)
                clear hT hTT hnz hr hU4 hdb hown hb hk hlt hg HU3 p0 p1 p2 p3 p4
                go_wp2_with fail
                refine HT2.out.mono ?_
                rintro e w3 ⟨rfl, hg3⟩
                cases T with
                | true =>
                  have hfin : R = 90 := by
                    have := of_decide_eq_true HTT.out
                    rw [HU4.out]; simp [this]
                  have HFIN := Lib.hid hfin
                  clear hfin
                  go_wp2_with fail
                  go_ret
                  exact ⟨ret_int HFIN.out.symm, gb_trans HG4.out hg3⟩
                | false =>
                  have hfin : R = (if unk f ≤ 48 then 0 else 5) := by
                    have := of_decide_eq_false HTT.out
                    simp only [Decidable.not_not] at this
                    rw [HU4.out]; simp [this]
                  obtain ⟨p0, p1, p2, p3, p4⟩ := HB4.out.more hg3
                  have hcc := count_calls w3 _ _ f.step.1 f.step.2 f.method f.nodes f.devs (HF4.out.more hg3).nodes (HF4.out.more hg3).devs HF.out.n1 HF.out.n2
                  have hun : unk f = (f.nodes.length : Int) - 1 + nbr f.devs f.devs.length := rfl
                  rw [← hun] at hcc
                  clear hun
                  generalize unk f = U at *
                  have HCC := Lib.hid hcc
                  have HFIN := Lib.hid hfin
                  clear hcc hfin
                  go_wp2_with fail
                  refine HCC.out.mono ?_
                  rintro e w4 ⟨v, rfl, hrv, hfv, hg4⟩
                  by_cases h48 : U ≤ 48
                  · have h48' : ¬ 48 < U := by omega
                    go_wp2_with fail
                    go_ret
                    exact ⟨ret_int (by rw [HFIN.out, if_pos h48]), gb_trans HG4.out (gb_trans hg3 hg4)⟩
                  · have h48' : 48 < U := by omega
                    go_wp2_with fail
                    go_ret
                    exact ⟨ret_int (by rw [HFIN.out, if_neg (by omega)]), gb_trans HG4.out (gb_trans hg3 hg4)⟩

end Go.Proofs.YtmfmfpmkgmkgiaaGreatDoor

namespace Go.Proofs.YtmfmfpmkgmkgiaaGreatDoor
open Go.RowKit Go.Maps
def isBent (k : Int) : Bool := decide (k = 100) || decide (k = 115)
def bents (ds : List DevP) (t : Nat) : List Int := ((List.range t).filter fun i => isBent (ds.getD i dev0).kind).map fun (i : Nat) => (i : Int)
theorem bents_succ (ds : List DevP) (t : Nat) : bents ds (t + 1) = bents ds t ++ (if isBent (ds.getD t dev0).kind then [(t : Int)] else []) := by
  unfold bents
  rw [List.range_succ, List.filter_append, List.map_append]
  by_cases h : isBent (ds.getD t dev0).kind = true
  · rw [if_pos h, List.filter_cons_of_pos (by exact h)]; rfl
  · rw [if_neg h, List.filter_cons_of_neg (by exact h)]; rfl
theorem bents_length_le (ds : List DevP) (t : Nat) : (bents ds t).length ≤ t := by
  unfold bents
  rw [List.length_map]
  exact Nat.le_trans (List.length_filter_le _ _) (by simp)

set_option maxRecDepth 100000 in
set_option maxHeartbeats 40000000 in
theorem Bent_calls (w : World) (f : FlatP) (A1 : Option Addr) (c1 : Nat) (A2 : Option Addr) (c2 : Nat) (hf : FlatAt w f A1 c1 A2 c2) :
    Calls Tryz.prog 17 #[.agg #[.slice A1 f.nodes.length c1, .slice A2 f.devs.length c2, .int .i64 f.step.1, .int .i64 f.step.2, .int .i64 f.method]] w fun e w' => ∃ v, e = .returned v ∧ Row w' v (ints (bents f.devs f.devs.length)) ∧ From w.heap.size v ∧ w.grownBy w' none := by
  have gw := gb_alloc w (.cells #[.slice A1 f.nodes.length c1, .slice A2 f.devs.length c2, .int .i64 f.step.1, .int .i64 f.step.2, .int .i64 f.method] 27) none
  have hB := FlatBox.of (Blk.new w #[.slice A1 f.nodes.length c1, .slice A2 f.devs.length c2, .int .i64 f.step.1, .int .i64 f.step.2, .int .i64 f.method] 27)
  have HF := Lib.hid hf
  have hsz := gw.size
  have hn2 := hf.n2
  obtain ⟨p0, p1, p2, p3, p4⟩ := hB
  clear hf
  go_enter Tryz.func17, Tryz.ntmps17
  go_wp2_with fail
  generalize w.alloc (.cells #[.slice A1 f.nodes.length c1, .slice A2 f.devs.length c2, .int .i64 f.step.1, .int .i64 f.step.2, .int .i64 f.method] 27) = wa at *
  generalize hs : w.heap.size = s at *
  go_loopw [3, 9] (fun v i wr => ∃ k : Nat, k ≤ f.devs.length ∧ i = .int .i64 k ∧ wr.ownsRow wa.heap.size 3 1 v (bents f.devs k).length (ints (bents f.devs k)) ∧ wa.grownBy wr none) (fun _ i _ => (f.devs.length - intOf i).toNat)
  case atStart => exact ⟨0, by omega, rfl, World.ownsRow_nil _ _ _ _, gb_refl _ _⟩
  case round =>
    obtain ⟨k, hk, rfl, hown, hg⟩ := hrel
    have hbl := bents_length_le f.devs k
    by_cases hlt : k < f.devs.length
    · obtain ⟨b, o, An, cn, Av, cv, As, cs, Ag, cg, Am, cm, rfl, hat, hc⟩ := (HF.out.more (gb_trans gw hg)).devs.at2 hlt
      have hbs := bents_succ f.devs k
      generalize f.devs.getD k dev0 = d at *
      obtain ⟨q0, q1, q2, q3, q4, q5, q6, q7, q8, q9, q10, q11, q12⟩ := hc
      have ga := gb_alloc wr (.cells #[.int .u8 d.kind, .string d.name, .slice An d.nodes.length cn, .int .i64 d.ref, .int .i64 d.val.1, .int .i64 d.val.2, .int .i64 d.wkind, .slice Av d.wvals.length cv, .slice As d.wsteps.length cs, .string d.mname, .int .u8 d.mkind, .slice Ag d.mg.length cg, .slice Am d.mv.length cm] 89) none
      obtain ⟨r0, -, -, -, -, -, -, -, -, -, -, -, -⟩ := DevBox.of (Blk.new wr #[.int .u8 d.kind, .string d.name, .slice An d.nodes.length cn, .int .i64 d.ref, .int .i64 d.val.1, .int .i64 d.val.2, .int .i64 d.wkind, .slice Av d.wvals.length cv, .slice As d.wsteps.length cs, .string d.mname, .int .u8 d.mkind, .slice Ag d.mg.length cg, .slice Am d.mv.length cm] 89)
      have hown2 := hown.alloc (.cells #[.int .u8 d.kind, .string d.name, .slice An d.nodes.length cn, .int .i64 d.ref, .int .i64 d.val.1, .int .i64 d.val.2, .int .i64 d.wkind, .slice Av d.wvals.length cv, .slice As d.wsteps.length cs, .string d.mname, .int .u8 d.mkind, .slice Ag d.mg.length cg, .slice Am d.mv.length cm] 89)
      have hsb := (gb_trans hg ga).size
      by_cases hb : d.kind = 100 ∨ d.kind = 115
      · have hbb : isBent d.kind = true := by unfold isBent; rcases hb with h | h <;> simp [h]
        rw [if_pos hbb] at hbs
        have HBS := Lib.hid hbs
        have hkk : (d.kind == 100) = true ∨ ((d.kind == 100) = false ∧ (d.kind == 115) = true) := by
          simp only [beq_iff_eq, beq_eq_false_iff_ne]; omega
        clear hbs hb hbb hat
        rcases hkk with t100 | ⟨t100, t115⟩
        all_goals
          go_upto_region 6 with (fail)
          generalize wr.alloc (.cells #[.int .u8 d.kind, .string d.name, .slice An d.nodes.length cn, .int .i64 d.ref, .int .i64 d.val.1, .int .i64 d.val.2, .int .i64 d.wkind, .slice Av d.wvals.length cv, .slice As d.wsteps.length cs, .string d.mname, .int .u8 d.mkind, .slice Ag d.mg.length cg, .slice Am d.mv.length cm] 89) = wb at *
          go_wp2_with (first
            | (at_builtin; refine app_one wa.heap.size rfl (.tmp 22) (.tmp 24) 30 3 (.int .i64 0) 1 8 rfl Tryz.underlying30 intinfo rfl (by omega) (by omega) u3 (bents f.devs k).length (ints (bents f.devs k)) #[.int .i64 (k : Int)] (by rfl) hown2 (by rfl) rfl (by simp [Value.oneCell']) (by omega) (by omega) ?_; intro v1 w1 hown1 hg1 hat1)
            | go_in)
          go_roundw
          case rel => exact ⟨k + 1, by omega, by go_num, by rw [HBS.out, ints_append, List.length_append]; exact hown1, gb_from (gb_trans hg ga) hg1 (own_from hown2)⟩
          case measure => simp [intOf]; omega
      · have hbb : isBent d.kind = false := by unfold isBent; simp; omega
        rw [if_neg (by rw [hbb]; simp), List.append_nil] at hbs
        have HBS := Lib.hid hbs
        have t100 : (d.kind == 100) = false := by rw [beq_eq_false_iff_ne]; omega
        have t115 : (d.kind == 115) = false := by rw [beq_eq_false_iff_ne]; omega
        clear hbs hb hbb hat
        go_wp2_with fail
        go_roundw
        case rel => exact ⟨k + 1, by omega, by go_num, by rw [HBS.out]; exact hown2, gb_trans hg ga⟩
        case measure => simp [intOf]; omega
    · obtain rfl : k = f.devs.length := by omega
      have hr := own_row hown
      have hfr := own_from hown
      have HR := Lib.hid hr
      clear hr
      go_wp2_with fail
      go_ret
      exact ⟨_, rfl, HR.out, hfr.mono (by omega), gb_trans gw hg⟩
def setB (mode method : Int) (step : Int × Int) : Bool :=
  decide (mode = 1) || (decide (mode = 2) && (decide (method = 1) || decide (method = 2)) && numOK step && decide (0 < step.1))
set_option maxRecDepth 100000 in
set_option maxHeartbeats 40000000 in
theorem SCheck_calls (w : World) (mode method : Int) (step : Int × Int) (i1 : I64 step.1) (i2 : I64 step.2) :
    Calls Tryz.prog 41 #[.agg #[.int .i64 mode, .int .i64 method, .int .i64 step.1, .int .i64 step.2]] w fun e w' => e = .returned (.int .i64 (if setB mode method step then 0 else 110)) ∧ w.grownBy w' none := by
  have gw := gb_alloc w (.cells #[.int .i64 mode, .int .i64 method, .int .i64 step.1, .int .i64 step.2] 29) none
  have hB := Blk.new w #[.int .i64 mode, .int .i64 method, .int .i64 step.1, .int .i64 step.2] 29
  obtain ⟨p0, p1, p2, p3, _⟩ := hB.four
  obtain ⟨R, hR⟩ : ∃ R : Int, (if setB mode method step then (0 : Int) else 110) = R := ⟨_, rfl⟩
  rw [hR]
  by_cases h1 : mode = 1
  · have HR : Hid (R = 0) := Lib.hid (by rw [← hR]; simp [setB, h1])
    have t1 : (mode == 1) = true := by rw [beq_iff_eq]; exact h1
    clear hR h1 hB
    go_enter Tryz.func41, Tryz.ntmps41
    go_wp2_with fail
    go_ret
    exact ⟨ret_int HR.out.symm, gw⟩
  have t1 : (mode == 1) = false := by rw [beq_eq_false_iff_ne]; exact h1
  by_cases h2 : mode = 2
  · have t2 : (mode == 2) = true := by rw [beq_iff_eq]; exact h2
    have t2' : (mode != 2) = false := by rw [bne_eq_false_iff_eq]; exact h2
    have HR1 : Hid (R = if (decide (method = 1) || decide (method = 2)) && numOK step && decide (0 < step.1) then 0 else 110) := Lib.hid (by rw [← hR]; simp [setB, h2])
    by_cases h3 : method = 1 ∨ method = 2
    · have hmm : ((method != 1) = false) ∨ ((method != 1) = true ∧ (method != 2) = false) := by
        rw [bne_eq_false_iff_eq, bne_iff_ne, bne_eq_false_iff_eq]; omega
      have HR2 : Hid (R = if numOK step && decide (0 < step.1) then 0 else 110) := Lib.hid (by
        rw [HR1.out]
        rw [show (decide (method = 1) || decide (method = 2)) = true by rcases h3 with h | h <;> simp [h]]
        simp only [Bool.true_and])
      have hN := NValid_calls (w.alloc (.cells #[.int .i64 mode, .int .i64 method, .int .i64 step.1, .int .i64 step.2] 29)) step.1 step.2 i1.1 i1.2 i2.1 i2.2
      obtain ⟨N, hNN⟩ : ∃ N, decide (NumOK step.1 step.2) = N := ⟨_, rfl⟩
      rw [hNN] at hN
      have HN : Hid (numOK step = N) := Lib.hid hNN
      have HC := Lib.hid hN
      have HB := Lib.hid hB
      clear hR h1 h2 h3 hN hNN hB HR1
      rcases hmm with hmm | ⟨hmm, hmm2⟩
      all_goals
        go_enter Tryz.func41, Tryz.ntmps41
        go_wp2_with fail
        refine HC.out.mono ?_
        rintro e w1 ⟨rfl, hg1⟩
        obtain ⟨q0, q1, q2, q3, _⟩ := (HB.out.more hg1).four
        cases N with
        | false =>
          go_wp2_with fail
          go_ret
          exact ⟨ret_int (by rw [HR2.out, HN.out]; rfl), gb_trans gw hg1⟩
        | true =>
          by_cases h5 : step.1 ≤ 0
          · go_wp2_with fail
            go_ret
            exact ⟨ret_int (by rw [HR2.out, if_neg (by simp; omega)]), gb_trans gw hg1⟩
          · go_wp2_with fail
            go_ret
            exact ⟨ret_int (by rw [HR2.out, HN.out, if_pos (by simp; omega)]), gb_trans gw hg1⟩
    · have m1 : (method != 1) = true := by rw [bne_iff_ne]; omega
      have m2 : (method != 2) = true := by rw [bne_iff_ne]; omega
      have HR2 : Hid (R = 110) := Lib.hid (by rw [HR1.out, if_neg (by simp; omega)])
      clear hR h1 h2 h3 hB HR1
      go_enter Tryz.func41, Tryz.ntmps41
      go_wp2_with fail
      go_ret
      exact ⟨ret_int HR2.out.symm, gw⟩
  · have t2 : (mode == 2) = false := by rw [beq_eq_false_iff_ne]; exact h2
    have t2' : (mode != 2) = true := by rw [bne_iff_ne]; exact h2
    have HR2 : Hid (R = 110) := Lib.hid (by rw [← hR, if_neg (by simp [setB, h1, h2])])
    clear hR h1 h2 hB
    go_enter Tryz.func41, Tryz.ntmps41
    go_wp2_with fail
    go_ret
    exact ⟨ret_int HR2.out.symm, gw⟩

set_option maxRecDepth 100000 in
set_option maxHeartbeats 40000000 in
theorem Unknowns_calls (w : World) (f : FlatP) (A1 : Option Addr) (c1 : Nat) (A2 : Option Addr) (c2 : Nat) (hf : FlatAt w f A1 c1 A2 c2) (hG : GlobOK w) (h0 : flatE f = 0) :
    Calls Tryz.prog 43 #[.agg #[.slice A1 f.nodes.length c1, .slice A2 f.devs.length c2, .int .i64 f.step.1, .int .i64 f.step.2, .int .i64 f.method]] w fun e w' => ∃ v, e = .returned (.tuple #[.int .i64 (unk f), v]) ∧ Row w' v (ints (brs f.devs ((f.nodes.length : Int) - 1) f.devs.length)) ∧ w.grownBy w' none := by
  have gw := gb_alloc w (.cells #[.slice A1 f.nodes.length c1, .slice A2 f.devs.length c2, .int .i64 f.step.1, .int .i64 f.step.2, .int .i64 f.method] 27) none
  have hB := FlatBox.of (Blk.new w #[.slice A1 f.nodes.length c1, .slice A2 f.devs.length c2, .int .i64 f.step.1, .int .i64 f.step.2, .int .i64 f.method] 27)
  have hC := FCheck_calls _ f A1 c1 A2 c2 (hf.more gw) (hG.more gw)
  rw [h0] at hC
  have HC := Lib.hid hC
  have HF := Lib.hid (hf.more gw)
  have HB := Lib.hid hB
  have hun : unk f = (f.nodes.length : Int) - 1 + nbr f.devs f.devs.length := rfl
  have HU := Lib.hid hun
  clear hC hf hG h0 hun
  obtain ⟨p0, p1, p2, p3, p4⟩ := hB
  go_enter Tryz.func43, Tryz.ntmps43
  go_wp2_with fail
  generalize w.alloc (.cells #[.slice A1 f.nodes.length c1, .slice A2 f.devs.length c2, .int .i64 f.step.1, .int .i64 f.step.2, .int .i64 f.method] 27) = wa at *
  refine HC.out.mono ?_
  rintro e w1 ⟨rfl, hg1⟩
  clear p0 p1 p2 p3 p4
  obtain ⟨p0, p1, p2, p3, p4⟩ := HB.out.more hg1
  have hcc := count_calls w1 _ _ f.step.1 f.step.2 f.method f.nodes f.devs (HF.out.more hg1).nodes (HF.out.more hg1).devs HF.out.n1 HF.out.n2
  rw [← HU.out] at hcc
  have HCC := Lib.hid hcc
  clear hcc
  go_wp2_with fail
  refine HCC.out.mono ?_
  rintro e w2 ⟨v, rfl, hr, hfr, hg2⟩
  go_wp2_with fail
  go_ret2
  exact ⟨v, rfl, hr, gb_trans gw (gb_trans hg1 hg2)⟩

end Go.Proofs.YtmfmfpmkgmkgiaaGreatDoor

namespace Go.Proofs.YtmfmfpmkgmkgiaaGreatDoor
open Go.RowKit
open Rat
def rdV (q : Rat) : Int := roundV (decide (q.num < 0)) false (digs q.num) (digs (q.den : Int))
def rdE (q : Rat) : Int := roundE (decide (q.num < 0)) false (digs q.num) (digs (q.den : Int))
def nano : Rat := (1000000000 : Int) /. 1
def dcE (vals : List (Int × Int)) (step : Int) : Int := if step < 0 ∨ 1000000000 < step then 4 else rdE (numQ (vals.getD 0 (0, 0)).1 (vals.getD 0 (0, 0)).2 * nano)
def dcV (vals : List (Int × Int)) (step : Int) : Int := if step < 0 ∨ 1000000000 < step then 0 else rdV (numQ (vals.getD 0 (0, 0)).1 (vals.getD 0 (0, 0)).2 * nano)

set_option maxRecDepth 100000 in
set_option maxHeartbeats 40000000 in
theorem WAt1_calls (w : World) (vv sv : Value) (vals : List (Int × Int)) (steps : List Int) (step : Int) (hv : NumRow w vv vals) (hs : IntRow w sv steps) (hok : WaveOK 1 vals steps) :
    Calls Tryz.prog 72 #[.agg #[.int .i64 1, vv, sv], .int .i64 step] w fun e w' => e = .returned (.tuple #[.int .i64 (dcV vals step), .int .i64 (dcE vals step)]) ∧ w.grownBy w' none := by
  have hn : NumOK (vals.getD 0 (0, 0)).1 (vals.getD 0 (0, 0)).2 := by
    have hl : vals.length = 1 := by have := hok.2.2; unfold kindOK at this; rw [if_pos rfl] at this; exact this.1
    have := hok.1
    rw [List.all_eq_true] at this
    have h0 : vals.getD 0 (0, 0) = vals[0] := by rw [List.getD_eq_getElem?_getD, List.getElem?_eq_getElem (by omega)]; rfl
    have := this (vals[0]) (List.getElem_mem _)
    rw [← h0] at this
    simpa [numOK] using this
  have hl : vals.length = 1 := by have := hok.2.2; unfold kindOK at this; rw [if_pos rfl] at this; exact this.1
  obtain ⟨E, hE⟩ : ∃ E, E = dcE vals step := ⟨_, rfl⟩
  obtain ⟨V, hV⟩ : ∃ V, V = dcV vals step := ⟨_, rfl⟩
  rw [← hE, ← hV]
  unfold dcE at hE
  unfold dcV at hV
  have HVE := Lib.hid hE
  have HVV := Lib.hid hV
  clear hE hV
  have HWV := fun (W : World) (hg : w.grownBy W none) => WValid_calls W 1 vv sv vals steps (hv.more hg) (hs.more hg)
  have hd : decide (WaveOK 1 vals steps) = true := decide_eq_true hok
  rw [hd] at HWV
  obtain ⟨Av, cv, rfl, _, _, _, hvc⟩ := id hv
  obtain ⟨b, o, hA, hv3⟩ := hvc (by omega)
  subst hA
  obtain ⟨q0, q1⟩ := hv3 0 (by omega)
  obtain ⟨As, cs, rfl, _, _⟩ := hs.ctor
  rw [hl] at *
  clear hvc hv3 hs hd hok hl
  generalize vals.getD 0 (0, 0) = p at *
  obtain ⟨m, e⟩ := p
  simp only [Nat.zero_mul, Nat.add_zero] at hn q0 q1 HVE HVV
  have gw := gb_alloc w (.cells #[.int .i64 1, .slice (some ⟨b, o, none⟩) 1 cv, .slice As steps.length cs] 85) none
  have hB := Blk.new w #[.int .i64 1, .slice (some ⟨b, o, none⟩) 1 cv, .slice As steps.length cs] 85
  have HW := Lib.hid (HWV _ gw)
  have HN := Lib.hid hn
  have q0 := gb_cell gw q0 (by simp)
  have q1 := gb_cell gw q1 (by simp)
  have m0 := hB.cell 0
  have m1 := hB.cell 1
  have m2 := hB.cell 2
  simp only [List.getElem?_toArray, List.getElem?_cons_zero, List.getElem?_cons_succ] at m0 m1 m2
  have HGW := Lib.hid gw
  clear HWV hn gw
  go_enter Tryz.func72, Tryz.ntmps72
  go_wp2_with fail
  generalize w.alloc (.cells #[.int .i64 1, .slice (some ⟨b, o, none⟩) 1 cv, .slice As steps.length cs] 85) = wa at *
  generalize w.heap.size = s at *
  refine HW.out.mono ?_
  rintro e' w1 ⟨rfl, hg1⟩
  have q0 := gb_cell hg1 q0 (by simp)
  have q1 := gb_cell hg1 q1 (by simp)
  have m0 := gb_cell hg1 m0 (by simp)
  have m1 := gb_cell hg1 m1 (by simp)
  have m2 := gb_cell hg1 m2 (by simp)
  have HG1 := Lib.hid (gb_trans HGW.out hg1)
  clear hg1 hB HW
  by_cases h1 : step < 0
  · have HE := Lib.hid (And.intro (HVE.out.trans (if_pos (.inl h1))) (HVV.out.trans (if_pos (.inl h1))))
    go_wp2_with fail
    go_ret2
    rw [HE.out.1, HE.out.2]
    exact ⟨rfl, HG1.out⟩
  · by_cases h2 : 1000000000 < step
    · have HE := Lib.hid (And.intro (HVE.out.trans (if_pos (.inr h2))) (HVV.out.trans (if_pos (.inr h2))))
      go_wp2_with fail
      go_ret2
      rw [HE.out.1, HE.out.2]
      exact ⟨rfl, HG1.out⟩
    · have HE := Lib.hid (And.intro (HVE.out.trans (if_neg (fun h => h.elim h1 h2))) (HVV.out.trans (if_neg (fun h => h.elim h1 h2))))
      go_wp2_with fail
      refine (wvalue_calls w1 m e HN.out).mono ?_
      rintro e' w2 ⟨b2, rfl, hr2, hb2, hg2⟩
      have HR2 := Lib.hid hr2
      have HG2 := Lib.hid (gb_trans HG1.out hg2)
      have HB2 := Lib.hid (Nat.le_trans HG1.out.size hb2)
      clear q0 q1 m0 m1 m2 hr2 hb2 hg2
      go_wp2_with fail
      refine (NewRat_calls w2 1000000000 1 (by omega) (by omega) (by omega) (by omega) (by omega)).mono ?_
      rintro e' w3 ⟨b3, rfl, hr3, hb3, hg3⟩
      have HR3 := Lib.hid hr3
      have HG3 := Lib.hid hg3
      clear hr3 hb3 hg3
      go_wp2_with fail
      refine (RMul_calls w3 b2 b2 b3 _ _ _ (HR2.out.more HG3.out) (HR2.out.more HG3.out) HR3.out 3 (by omega) (limQ_num HN.out) (by refine LimQ.divInt (by omega) ?_ ?_ <;> exact Nat.le_trans (lim_small (by decide)) (by omega))).mono ?_
      rintro e' w4 ⟨rfl, hr4, hg4⟩
      have HR4 := Lib.hid hr4
      have HG4 := Lib.hid (gb_new (gb_trans HG2.out HG3.out) hg4 HB2.out)
      have hlq : LimQ (numQ m e * (1000000000 /. 1)) 1099511627776 := (LimQ.mul (limQ_num HN.out) (show LimQ ((1000000000 : Int) /. 1) 3 from by refine LimQ.divInt (by omega) ?_ ?_ <;> exact Nat.le_trans (lim_small (by decide)) (by omega))).mono (by omega)
      have HLQ := Lib.hid hlq
      clear hr4 hg4 hlq
      go_wp2_with fail
      refine (WFrac_calls w4 b2 _ HR4.out HLQ.out).mono ?_
      rintro e' w5 ⟨v1, v2, rfl, hn1, hn2, _, _, hg5⟩
      obtain ⟨A1, n1, c1, rfl⟩ := hn1.ctor
      obtain ⟨A2, n2, c2, rfl⟩ := hn2.ctor
      have HN1 := Lib.hid hn1
      have HN2 := Lib.hid hn2
      have HG5 := Lib.hid (gb_trans HG4.out hg5)
      clear hn1 hn2 hg5
      go_wp2_with fail
      refine (Round_calls w5 _ _ _ _ _ _ HN1.out HN2.out).mono ?_
      rintro e' w6 ⟨rfl, hg6⟩
      go_wp2_with fail
      go_ret2
      rw [HE.out.1, HE.out.2]
      exact ⟨rfl, gb_trans HG5.out hg6⟩

end Go.Proofs.YtmfmfpmkgmkgiaaGreatDoor
