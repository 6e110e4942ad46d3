/- Contracts of the program's functions, and what they rest on: LeB. -/
import Derived.Test.YtmfmfpmkgmkgiaaGreatDoorMax
import Derived.Test.YtmfmfpmkgmkgiaaGreatDoorMbe
set_option linter.unusedVariables false
set_option linter.unusedSimpArgs false
namespace Go.Proofs.YtmfmfpmkgmkgiaaGreatDoor
open Go.RowKit Go.Maps
open Rat

theorem StG.ok {n : Int} {K : Nat} {L : List StampP} (h : StG n K L) {m : Nat} (hm : n = (m : Int)) : StOK L m := fun x hx => by
  obtain ⟨⟨a1, a2, a3, _⟩, a5⟩ := h x hx
  exact ⟨a1, a3, by omega⟩
theorem bld_no {f : FlatP} {mode method : Int} {step : Int × Int} {segs : List Int} (h : bldE f mode method step segs ≠ 0) : bldV f mode method step segs = [] := by
  unfold bldV
  split
  · rfl
  · rename_i h1
    unfold bldE at h
    rw [if_neg h1] at h
    unfold buildV
    rw [if_neg h]
theorem bld_ok {f : FlatP} {mode method : Int} {step : Int × Int} {segs : List Int} (h : bldE f mode method step segs = 0) : ((bldV f mode method step segs).length : Int) = unk f ∧ sysE (bldV f mode method step segs) = 0 ∧ (∀ k, k < (bldV f mode method step segs).length → rowG ((bldV f mode method step segs).getD k row0) = 1) ∧ f.nodes.length ≤ 32 ∧ f.devs.length ≤ 64 := by
  have hf : faultE f mode method step segs = 0 := by
    refine Decidable.byContradiction fun hn => hn ?_
    unfold bldE at h
    rw [if_pos hn] at h
    exact h
  obtain ⟨h0, _, _⟩ := fault_0 hf
  obtain ⟨u1, u2⟩ := unk_nat h0
  obtain ⟨s1, _⟩ := sysStamps_ok hf
  have hs := s1.ok u1
  obtain ⟨n1, n2, _⟩ := flat_ok h0
  have hV : bldV f mode method step segs = buildV (sysStamps f mode method step segs) (unk f).toNat := by unfold bldV; rw [if_neg (by omega)]
  have hE : buildE (sysStamps f mode method step segs) (unk f).toNat = 0 := by unfold bldE at h; rwa [if_neg (by omega)] at h
  have hR : buildV (sysStamps f mode method step segs) (unk f).toNat = rowsOf (sysStamps f mode method step segs) (unk f).toNat := by unfold buildV; rw [if_pos hE]
  refine ⟨by rw [hV, hR, rowsOf_length]; omega, by rw [hV]; exact buildV_ok hs u2, fun k hk => ?_, n1, n2⟩
  rw [hV, hR] at hk ⊢
  rw [rowsOf_length] at hk
  rw [List.getD_eq_getElem?_getD, List.getElem?_eq_getElem (by rw [rowsOf_length]; exact hk)]
  simp only [rowsOf, List.getElem_map, List.getElem_range, Option.getD_some]
  exact rowG_one hs k
theorem sysE_len {l : List RowP} (h : sysE l = 0) : l.length ≤ 48 := by
  unfold sysE at h
  split at h
  · rename_i h1; exact h1.1
  · omega
theorem sysE_rows {l : List RowP} (h : sysE l = 0) {k : Nat} (hk : k < l.length) : rowOK l.length (l.getD k row0) := by
  unfold sysE at h
  split at h
  · rename_i h1; exact h1.2 k hk
  · omega
def gAt (r : RowP) (j : Nat) : Nat :=
  if j = 0 then Nat.gcd (val 4294967296 r.mlimbs) (val 4294967296 r.klimbs) else if j = 1 then gcdCells (Nat.gcd (val 4294967296 r.mlimbs) (val 4294967296 r.klimbs)) r.a
  else if j = 2 then gcdCells (gcdCells (Nat.gcd (val 4294967296 r.mlimbs) (val 4294967296 r.klimbs)) r.a) r.h else rowG r
theorem gAt_3 (r : RowP) : gAt r 3 = rowG r := rfl
theorem gcd_lim {a b : Nat} (ha : 0 < a) (la : lim (a : Int) ≤ 72) : 0 < Nat.gcd a b ∧ lim ((Nat.gcd a b : Nat) : Int) ≤ 72 :=
  ⟨Nat.gcd_pos_of_pos_left _ ha, Nat.le_trans (lim_dvd (Nat.gcd_dvd_left _ _) ha) la⟩
theorem gcd_call (w : World) (g : Nat) (hg0 : 0 < g) (lg : lim (g : Int) ≤ 72) (v1 v2 : Value) (neg : Bool) (xs ys : List Nat) (h1 : Nums w v1 xs) (hx : digs (g : Int) = xs) (h2 : Nums w v2 ys) (hy : IntOK neg ys) :
    Calls Tryz.prog 30 #[.agg #[.bool false, v1], .agg #[.bool neg, v2]] w fun e w' => ∃ A n c, e = .returned (.tuple #[.agg #[.bool false, .slice A n c], .int .i64 0]) ∧ Hid (Nums w' (.slice A n c) (digs ((Nat.gcd g (val 4294967296 ys) : Nat) : Int))) ∧ w.grownBy w' none := by
  subst hx
  have hk : okI false neg (digs (g : Int)) ys := ⟨by have := intOK_digs (g : Int) lg; rwa [decide_eq_false (by omega)] at this, hy⟩
  refine (LGcd_calls w false neg v1 v2 _ ys h1 h2).mono fun e w' h => ?_
  obtain ⟨s, rfl, hn, _, hg⟩ := h
  rw [if_pos hk, val_digs, Int.natAbs_natCast] at hn
  obtain ⟨A, n, c, rfl⟩ := hn.ctor
  exact ⟨A, n, c, by rw [if_pos hk], Lib.hid hn, hg⟩
theorem take_succ_c {l : List CellP} {t : Nat} (ht : t < l.length) (g : Nat) : gcdCells g (l.take (t + 1)) = Nat.gcd (gcdCells g (l.take t)) (val 4294967296 (l.getD t cell0).limbs) := by
  rw [List.take_add_one, List.getElem?_eq_getElem ht, Option.toList_some, gcdCells_snoc, List.getD_eq_getElem?_getD, List.getElem?_eq_getElem ht]; rfl

theorem store2 {w : World} {db : Nat} {b0 : Bool} {A0 : Option Addr} {n0 c0 : Nat} (h : Blk w db #[.bool b0, .slice A0 n0 c0]) (y : Bool) (A : Option Addr) (n c : Nat) :
    ∃ W, (w.setCell ⟨db, 0, none⟩ (.bool y)).setCell ⟨db, 1, none⟩ (.slice A n c) = W ∧ Blk W db #[.bool y, .slice A n c] ∧ w.grownBy W (some db) ∧ ∀ v xs, Nums w v xs → Nums W v xs := by
  refine ⟨_, rfl, (h.set 0 _).set 1 _, gb_trans (gb_set _ _ _ _) (gb_set _ _ _ _), fun v xs hn => ?_⟩
  refine hn.other (gb_trans (gb_set _ _ _ _) (gb_set _ _ _ _)) ?_
  obtain ⟨T, h⟩ := h
  refine plain_of_heap h ?_
  intro u hu m
  simp at hu
  rcases hu with rfl | rfl <;> simp
def GNow (w : World) (db g : Nat) : Prop := ∃ A n c, Blk w db #[.bool false, .slice A n c] ∧ Nums w (.slice A n c) (digs (g : Int)) ∧ 0 < g ∧ lim (g : Int) ≤ 72


set_option maxRecDepth 100000 in
set_option maxHeartbeats 40000000 in
theorem Least_calls (w : World) (f : FlatP) (A1 : Option Addr) (c1 : Nat) (A2 : Option Addr) (c2 : Nat) (hf : FlatAt w f A1 c1 A2 c2) (hG : GlobOK w)
    (mode method : Int) (step : Int × Int) (i1 : I64 step.1) (i2 : I64 step.2) (Aq : Option Addr) (cq : Nat) (segs : List Int) (hsr : IntRow w (.slice Aq segs.length cq) segs) :
    Calls Tryz.prog 6 #[.agg #[.slice A1 f.nodes.length c1, .slice A2 f.devs.length c2, .int .i64 f.step.1, .int .i64 f.step.2, .int .i64 f.method], .agg #[.int .i64 mode, .int .i64 method, .int .i64 step.1, .int .i64 step.2, .slice Aq segs.length cq]] w fun e w' => e = .returned (.bool true) ∧ w.grownBy w' none := by
  have g1 := gb_alloc w (.cells #[.slice A1 f.nodes.length c1, .slice A2 f.devs.length c2, .int .i64 f.step.1, .int .i64 f.step.2, .int .i64 f.method] 27) none
  have g2 := gb_alloc (w.alloc (.cells #[.slice A1 f.nodes.length c1, .slice A2 f.devs.length c2, .int .i64 f.step.1, .int .i64 f.step.2, .int .i64 f.method] 27)) (.cells #[.int .i64 mode, .int .i64 method, .int .i64 step.1, .int .i64 step.2, .slice Aq segs.length cq] 32) none
  have gw := gb_trans g1 g2
  have HFB := Lib.hid ((FlatBox.of (Blk.new w #[.slice A1 f.nodes.length c1, .slice A2 f.devs.length c2, .int .i64 f.step.1, .int .i64 f.step.2, .int .i64 f.method] 27)).more g2)
  have hQB := Blk.new (w.alloc (.cells #[.slice A1 f.nodes.length c1, .slice A2 f.devs.length c2, .int .i64 f.step.1, .int .i64 f.step.2, .int .i64 f.method] 27)) #[.int .i64 mode, .int .i64 method, .int .i64 step.1, .int .i64 step.2, .slice Aq segs.length cq] 32
  rw [World.size_alloc] at hQB
  have HQB := Lib.hid hQB
  have HF := Lib.hid (hf.more gw)
  have HG := Lib.hid (hG.more gw)
  have HSR := Lib.hid (hsr.more gw)
  have HGW := Lib.hid gw
  have HNO := Lib.hid (bld_no (f := f) (mode := mode) (method := method) (step := step) (segs := segs))
  have HYES := Lib.hid (bld_ok (f := f) (mode := mode) (method := method) (step := step) (segs := segs))
  clear hf hG hsr g1 g2 gw hQB
  go_enter Tryz.func6, Tryz.ntmps6
  go_wp2_with fail
  generalize (w.alloc (.cells #[.slice A1 f.nodes.length c1, .slice A2 f.devs.length c2, .int .i64 f.step.1, .int .i64 f.step.2, .int .i64 f.method] 27)).alloc (.cells #[.int .i64 mode, .int .i64 method, .int .i64 step.1, .int .i64 step.2, .slice Aq segs.length cq] 32) = wa at *
  generalize w.heap.size = s at *
  refine (awake_calls wa HG.out).mono ?_
  rintro e w1 ⟨rfl, hg1⟩
  obtain ⟨p0, p1, p2, p3, p4⟩ := HFB.out.more hg1
  go_wp2_with fail
  refine (bulky_calls w1 f A1 c1 A2 c2 (HF.out.more hg1)).mono ?_
  rintro e w2 ⟨b, rfl, hg2⟩
  have g12 := gb_trans hg1 hg2
  clear p0 p1 p2 p3 p4
  cases b with
  | true => as_aux_lemma =>
      go_wp2_with fail
      go_ret
      exact ⟨rfl, gb_trans HGW.out g12⟩
  | false =>
    obtain ⟨p0, p1, p2, p3, p4⟩ := HFB.out.more g12
    have hqb := HQB.out.more g12
    have q0 := hqb.cell 0
    have q1 := hqb.cell 1
    have q2 := hqb.cell 2
    have q3 := hqb.cell 3
    have q4 := hqb.cell 4
    simp only [List.getElem?_toArray, List.getElem?_cons_zero, List.getElem?_cons_succ] at q0 q1 q2 q3 q4
    have HBLD := Lib.hid (Build_calls w2 f A1 c1 A2 c2 (HF.out.more g12) (HG.out.more g12) mode method step i1 i2 Aq cq segs (HSR.out.more g12))
    have HG12 := Lib.hid g12
    clear hqb g12 hg1 hg2
    go_wp2_with fail
    refine HBLD.out.mono ?_
    rintro e w3 ⟨A3, c3, rfl, hsys, hg3⟩
    clear HBLD p0 p1 p2 p3 p4 q0 q1 q2 q3 q4
    generalize bldE f mode method step segs = E at *
    generalize bldV f mode method step segs = V at *
    have HG3 := Lib.hid (gb_trans HG12.out hg3)
    have ga := gb_alloc w3 (.cells #[.slice A3 V.length c3] 38) none
    have hSB := Blk.new w3 #[.slice A3 V.length c3] 38
    have y0 := hSB.cell 0
    simp only [List.getElem?_toArray, List.getElem?_cons_zero] at y0
    have HGA := Lib.hid (gb_trans HG3.out ga)
    have HSY := Lib.hid (hsys.more ga)
    clear hsys hg3 ga
    by_cases hE : E = 0
    · obtain ⟨v1, v2, v3, v4, v5⟩ := HYES.out hE
      subst hE
      have HV1 := Lib.hid v1
      have HV2 := Lib.hid v2
      have HV3 := Lib.hid v3
      have HB4 := Lib.hid (show f.nodes.length ≤ 1099511627776 ∧ f.devs.length ≤ 1099511627776 by omega)
      clear v1 v2 v3 v4 v5 HYES HNO
      obtain ⟨p0, p1, p2, p3, p4⟩ := HFB.out.more HGA.out
      have hCN := MCount_calls (w3.alloc (.cells #[.slice A3 V.length c3] 38)) f A1 c1 A2 c2 (HF.out.more HGA.out) HB4.out.1 HB4.out.2
      rw [← HV1.out] at hCN
      have HCN := Lib.hid hCN
      have HSB := Lib.hid hSB
      clear hCN hSB
      go_wp2_with fail
      generalize w3.alloc (.cells #[.slice A3 V.length c3] 38) = w4 at *
      generalize w3.heap.size = sb at *
      refine HCN.out.mono ?_
      rintro e w5 ⟨vv, rfl, hg5⟩
      have HG5 := Lib.hid (gb_trans HGA.out hg5)
      have y0 := gb_cell hg5 y0 (by simp)
      have hSC := SysCheck_calls w5 _ V (HSY.out.more hg5)
      rw [HV2.out] at hSC
      have HSC := Lib.hid hSC
      have HSY := Lib.hid (HSY.out.more hg5)
      have t1 : ((V.length : Int) != (V.length : Int)) = false := by simp
      clear p0 p1 p2 p3 p4 hSC hg5 HCN HSB
      go_wp2_with fail
      refine HSC.out.mono ?_
      rintro e w6 ⟨rfl, hg6⟩
      have HG6 := Lib.hid (gb_trans HG5.out hg6)
      have y0 := gb_cell hg6 y0 (by simp)
      have HSY := Lib.hid (HSY.out.more hg6)
      clear hg6 HSC
      go_wp2_with fail
      clear y0
      go_loopw [53] (fun i wr => ∃ k : Nat, k ≤ V.length ∧ i = .int .i64 k ∧ w6.grownBy wr none) (fun i _ => (V.length - intOf i).toNat)
      case atStart => exact ⟨0, by omega, rfl, gb_refl _ _⟩
      case round =>
        obtain ⟨k, hk, rfl, hg⟩ := hrel
        by_cases hlt : k < V.length
        · as_aux_lemma =>
            have hrow := sysE_rows HV2.out hlt
            have hone := HV3.out k hlt
            obtain ⟨b, o, Am, nm, cm, Aa, ca, Ah, ch, As, cs, Ak, nk, ck, rfl, q0, q1, q2, q3, q4, q5, q6, rm, ra, rh, rs, rk⟩ := (HSY.out.more hg).at hlt
            generalize V.getD k row0 = r at *
            obtain ⟨om, omn, omz, okk, oa, oh, os'⟩ := hrow
            obtain rfl : nm = r.mlimbs.length := by obtain ⟨_, _, e, _⟩ := rm.form; injection e
            obtain rfl : nk = r.klimbs.length := by obtain ⟨_, _, e, _⟩ := rk.form; injection e
            have ga := gb_alloc wr (.cells #[.bool r.mneg, .slice Am r.mlimbs.length cm, .slice Aa r.a.length ca, .slice Ah r.h.length ch, .slice As r.s.length cs, .bool r.kneg, .slice Ak r.klimbs.length ck] 52) none
            have hBX := Blk.new wr #[.bool r.mneg, .slice Am r.mlimbs.length cm, .slice Aa r.a.length ca, .slice Ah r.h.length ch, .slice As r.s.length cs, .bool r.kneg, .slice Ak r.klimbs.length ck] 52
            have gd := gb_alloc (wr.alloc (.cells #[.bool r.mneg, .slice Am r.mlimbs.length cm, .slice Aa r.a.length ca, .slice Ah r.h.length ch, .slice As r.s.length cs, .bool r.kneg, .slice Ak r.klimbs.length ck] 52)) (.cells #[.bool r.mneg, .slice Am r.mlimbs.length cm] 49) none
            have hBD := Blk.new (wr.alloc (.cells #[.bool r.mneg, .slice Am r.mlimbs.length cm, .slice Aa r.a.length ca, .slice Ah r.h.length ch, .slice As r.s.length cs, .bool r.kneg, .slice Ak r.klimbs.length ck] 52)) #[.bool r.mneg, .slice Am r.mlimbs.length cm] 49
            rw [World.size_alloc] at hBD
            have hsz : (wr.alloc (.cells #[.bool r.mneg, .slice Am r.mlimbs.length cm, .slice Aa r.a.length ca, .slice Ah r.h.length ch, .slice As r.s.length cs, .bool r.kneg, .slice Ak r.klimbs.length ck] 52)).heap.size = wr.heap.size + 1 := World.size_alloc _ _
            have HDB := Lib.hid hBD
            have HBX := Lib.hid (hBX.more gd)
            have HSZ := Lib.hid hsz
            have HRA := Lib.hid (ra.more ga)
            have HRH := Lib.hid (rh.more ga)
            have HRS := Lib.hid (rs.more ga)
            have HOA := Lib.hid oa
            have HOH := Lib.hid oh
            have HOS := Lib.hid os'
            have HONE := Lib.hid hone
            have HGR := Lib.hid (gb_trans hg ga)
            have HGD := Lib.hid gd
            have em : digs ((val 4294967296 r.mlimbs : Nat) : Int) = r.mlimbs := by have := (om.digs rm.2).1; rwa [omn] at this
            have hp : 0 < val 4294967296 r.mlimbs := by
              rcases Nat.eq_zero_or_pos (val 4294967296 r.mlimbs) with h | h
              · rw [h] at em; exact absurd em.symm omz
              · exact h
            have hl : lim ((val 4294967296 r.mlimbs : Nat) : Int) ≤ 72 := by unfold lim; rw [em]; exact om.1
            have hrm := rm.more (gb_trans ga gd)
            have HGC := Lib.hid (gcd_call _ _ hp hl _ _ r.kneg _ r.klimbs hrm em (rk.more (gb_trans ga gd)) okk)
            have HGL := Lib.hid (gcd_lim (b := val 4294967296 r.klimbs) hp hl)
            rw [omn] at q0 HGC HDB HBX HGD HGR hsz HSZ HRA HRH HRS
            obtain ⟨x0, x1, x2, x3, x4, x5, x6⟩ := HBX.out.seven
            obtain ⟨d0, d1, _⟩ := HDB.out.two
            have HLT := Lib.hid hlt
            clear om okk oa oh os' em hp hl hrm rm ra rh rs rk ga gd hBX hBD hsz hone hg omz
            go_wp2_with fail
            clear q0 q1 q2 q3 q4 q5 q6 x0 x1 x2 x3 x4 x5 x6 d0 d1 hlt
            obtain ⟨wA, hwA⟩ : ∃ W, W = wr.alloc (.cells #[.bool false, .slice Am r.mlimbs.length cm, .slice Aa r.a.length ca, .slice Ah r.h.length ch, .slice As r.s.length cs, .bool r.kneg, .slice Ak r.klimbs.length ck] 52) := ⟨_, rfl⟩
            rw [← hwA] at HGC HDB HBX HGD HGR HSZ HRA HRH HRS ⊢
            obtain ⟨wB, hwB⟩ : ∃ W, W = wA.alloc (.cells #[.bool false, .slice Am r.mlimbs.length cm] 49) := ⟨_, rfl⟩
            rw [← hwB] at HGC HDB HBX HGD ⊢
            obtain ⟨db, hdb⟩ : ∃ x, x = wr.heap.size + 1 := ⟨_, rfl⟩
            obtain ⟨rb, hrb⟩ : ∃ x, x = wr.heap.size := ⟨_, rfl⟩
            rw [← hdb] at HDB HSZ ⊢
            rw [← hrb] at HBX ⊢
            clear hwA hwB hdb hrb
            refine HGC.out.mono ?_
            rintro e w7 ⟨A7, n7, c7, rfl, hn7, hg7⟩
            have hd7 := HDB.out.more hg7
            obtain ⟨d0, d1, _⟩ := hd7.two
            have f0 := hd7.free 0
            have f1 := hd7.free 1
            have HS2 := Lib.hid (store2 hd7 false A7 n7 c7)
            have HN7 := hn7
            have HG7 := Lib.hid (gb_trans HGD.out hg7)
            have hbx := HBX.out.more hg7
            have HBX7 := Lib.hid hbx
            have HNE : Hid (rb ≠ db) := Lib.hid (by
              intro e
              subst e
              have := congrArg Array.size (blk_eq hbx hd7)
              simp at this)
            clear hn7 hg7 hd7 HGC hbx
            go_upto_region 16 with (fail)
            clear d0 d1 f0 f1
            obtain ⟨w8, hW, hWB, hWG, hWN⟩ := HS2.out
            rw [hW]
            have hbx8 := HBX7.out.other hWG HNE.out
            obtain ⟨x0, x1, x2, x3, x4, x5, x6⟩ := hbx8.seven
            have hn8 := hWN _ _ HN7.out
            have HR8 := Lib.hid (gb_new HG7.out hWG (Nat.le_of_eq HSZ.out))
            have gm := gb_alloc w8 (.cells #[.slice Aa r.a.length ca, .slice Ah r.h.length ch, .slice As r.s.length cs] 50) none
            have hBM := Blk.new w8 #[.slice Aa r.a.length ca, .slice Ah r.h.length ch, .slice As r.s.length cs] 50
            have HBM := Lib.hid hBM
            have HR9 := Lib.hid (gb_trans HR8.out gm)
            have HDB9 : Hid (GNow (w8.alloc (.cells #[.slice Aa r.a.length ca, .slice Ah r.h.length ch, .slice As r.s.length cs] 50)) db (gAt r 0)) := Lib.hid ⟨A7, n7, c7, hWB.more gm, hn8.more gm, HGL.out.1, HGL.out.2⟩
            have HDB : Hid (wA.heap.size ≤ db) := Lib.hid (Nat.le_of_eq HSZ.out)
            have HDM : Hid (w8.heap.size ≠ db) := Lib.hid (by have := hWB.lt; omega)
            clear hW hWB hWG hWN hbx8 hn8 gm hBM HS2 HN7
            go_wp2_with fail
            clear x0 x1 x2 x3 x4 x5 x6
            obtain ⟨w9, hw9⟩ : ∃ W, W = w8.alloc (.cells #[.slice Aa r.a.length ca, .slice Ah r.h.length ch, .slice As r.s.length cs] 50) := ⟨_, rfl⟩
            rw [← hw9] at HBM HR9 HDB9 ⊢
            obtain ⟨mb, hmb⟩ : ∃ x, x = w8.heap.size := ⟨_, rfl⟩
            rw [← hmb] at HBM HDM ⊢
            clear hw9 hmb
            go_loopw [74] (fun i wx => ∃ (j : Int) (m : Nat), ((j = 0 ∧ m = 0) ∨ (j = 1 ∧ m = 1) ∨ (j = 2 ∧ m = 2) ∨ (j = 3 ∧ m = 3)) ∧ i = .int .i64 j ∧ w9.grownBy wx (some db) ∧ Hid (GNow wx db (gAt r m))) (fun i _ => (3 - intOf i).toNat)
            case atStart => exact ⟨0, 0, by omega, rfl, gb_refl _ _, HDB9⟩
            case round =>
              obtain ⟨j, m, hj, rfl, hgx, hgn⟩ := hrel
              have hbm := HBM.out.other hgx HDM.out
              have n0 := hbm.cell 0
              have n1 := hbm.cell 1
              have n2 := hbm.cell 2
              simp only [List.getElem?_toArray, List.getElem?_cons_zero, List.getElem?_cons_succ] at n0 n1 n2
              clear hbm
              rcases hj with ⟨rfl, rfl⟩ | ⟨rfl, rfl⟩ | ⟨rfl, rfl⟩ | ⟨rfl, rfl⟩
              · as_aux_lemma =>
                  have HSL : Hid (r.a.length ≤ 9223372036854775807) := Lib.hid (by obtain ⟨_, _, _, h1, h2⟩ := HRA.out.ctor; omega)
                  have HGX := Lib.hid hgx
                  clear hgx
                  go_wp2_with fail
                  clear n0 n1 n2
                  go_loopw [80] (fun i wy => ∃ t : Nat, t ≤ r.a.length ∧ i = .int .i64 t ∧ w9.grownBy wy (some db) ∧ Hid (GNow wy db (gcdCells (gAt r 0) (r.a.take t)))) (fun i _ => (r.a.length - intOf i).toNat)
                  case atStart => exact ⟨0, by omega, rfl, HGX.out, hgn⟩
                  case round =>
                    obtain ⟨t, ht, rfl, hgy, hgn⟩ := hrel
                    by_cases htl : t < r.a.length
                    · have hy9 := gb_new HR9.out hgy HDB.out
                      obtain ⟨bc, oc, A', n', c', rfl, hI, u0, u1, u2, hnc⟩ := (HRA.out.more hy9).at htl
                      obtain ⟨Ad, nd, cd, hdb, hdn, hdp, hdl⟩ := hgn.out
                      have htk := take_succ_c htl (gAt r 0)
                      obtain ⟨_, _, _, hio, _⟩ := HOA.out t htl
                      generalize r.a.getD t cell0 = x at *
                      have gc := gb_alloc wr (.cells #[.int .i64 x.col, .bool x.neg, .slice A' n' c'] 55) none
                      have hcb := Blk.new wr #[.int .i64 x.col, .bool x.neg, .slice A' n' c'] 55
                      have k0 := hcb.cell 0
                      have k1 := hcb.cell 1
                      have k2 := hcb.cell 2
                      simp only [List.getElem?_toArray, List.getElem?_cons_zero, List.getElem?_cons_succ] at k0 k1 k2
                      have hd2 := hdb.more gc
                      obtain ⟨d0, d1, _⟩ := hd2.two
                      have HGC := Lib.hid (gcd_call (wr.alloc (.cells #[.int .i64 x.col, .bool x.neg, .slice A' n' c'] 55)) _ hdp hdl _ _ x.neg _ x.limbs (hdn.more gc) rfl (hnc.more gc) hio)
                      have HTK := Lib.hid htk
                      have HDP := Lib.hid (gcd_lim (b := val 4294967296 x.limbs) hdp hdl)
                      have HGY := Lib.hid (gb_trans hgy (gb_none gc))
                      have HD2 := Lib.hid hd2
                      have HTL := Lib.hid htl
                      have hsl := HSL.out
                      clear htk hio hdp hdl hdn hdb hgn hnc hcb gc hy9 hgy hd2 hI
                      go_wp2_with fail
                      clear u0 u1 u2 k0 k1 k2 d0 d1
                      generalize wr.alloc (.cells #[.int .i64 x.col, .bool x.neg, .slice A' n' c'] 55) = wx1 at *
                      refine HGC.out.mono ?_
                      rintro e w11 ⟨A, n, c, rfl, hn, hg11⟩
                      have hd3 := HD2.out.more hg11
                      obtain ⟨d0, d1, _⟩ := hd3.two
                      have f0 := hd3.free 0
                      have f1 := hd3.free 1
                      have HS2 := Lib.hid (store2 hd3 false A n c)
                      have HN := hn
                      have HG11 := Lib.hid (gb_trans HGY.out (gb_none hg11))
                      clear hn hg11 hd3 HGC
                      go_wp2_with fail
                      obtain ⟨W, hW, hWB, hWG, hWN⟩ := HS2.out
                      have htl := HTL.out
                      have hsl := HSL.out
                      try rw [hW]
                      exact ⟨⟨t + 1, by omega, by go_num, gb_trans HG11.out hWG, Lib.hid (by rw [HTK.out]; exact ⟨A, n, c, hWB, hWN _ _ HN.out, HDP.out.1, HDP.out.2⟩)⟩, by simp [intOf]; omega⟩
                    · obtain rfl : t = r.a.length := by omega
                      have hgn' := hgn.out
                      rw [List.take_length] at hgn'
                      have HGN := Lib.hid hgn'
                      have HGY := Lib.hid hgy
                      clear hgn hgn' hgy
                      go_wp2_with fail
                      exact ⟨⟨(0 + 1 : Int), (0 + 1 : Nat), by omega, by first | rfl | go_num, HGY.out, HGN⟩, by simp [intOf]⟩
              · as_aux_lemma =>
                  have HSL : Hid (r.h.length ≤ 9223372036854775807) := Lib.hid (by obtain ⟨_, _, _, h1, h2⟩ := HRH.out.ctor; omega)
                  have HGX := Lib.hid hgx
                  clear hgx
                  go_wp2_with fail
                  clear n0 n1 n2
                  go_loopw [80] (fun i wy => ∃ t : Nat, t ≤ r.h.length ∧ i = .int .i64 t ∧ w9.grownBy wy (some db) ∧ Hid (GNow wy db (gcdCells (gAt r 1) (r.h.take t)))) (fun i _ => (r.h.length - intOf i).toNat)
                  case atStart => exact ⟨0, by omega, rfl, HGX.out, hgn⟩
                  case round =>
                    obtain ⟨t, ht, rfl, hgy, hgn⟩ := hrel
                    by_cases htl : t < r.h.length
                    · have hy9 := gb_new HR9.out hgy HDB.out
                      obtain ⟨bc, oc, A', n', c', rfl, hI, u0, u1, u2, hnc⟩ := (HRH.out.more hy9).at htl
                      obtain ⟨Ad, nd, cd, hdb, hdn, hdp, hdl⟩ := hgn.out
                      have htk := take_succ_c htl (gAt r 1)
                      obtain ⟨_, _, _, hio, _⟩ := HOH.out t htl
                      generalize r.h.getD t cell0 = x at *
                      have gc := gb_alloc wr (.cells #[.int .i64 x.col, .bool x.neg, .slice A' n' c'] 55) none
                      have hcb := Blk.new wr #[.int .i64 x.col, .bool x.neg, .slice A' n' c'] 55
                      have k0 := hcb.cell 0
                      have k1 := hcb.cell 1
                      have k2 := hcb.cell 2
                      simp only [List.getElem?_toArray, List.getElem?_cons_zero, List.getElem?_cons_succ] at k0 k1 k2
                      have hd2 := hdb.more gc
                      obtain ⟨d0, d1, _⟩ := hd2.two
                      have HGC := Lib.hid (gcd_call (wr.alloc (.cells #[.int .i64 x.col, .bool x.neg, .slice A' n' c'] 55)) _ hdp hdl _ _ x.neg _ x.limbs (hdn.more gc) rfl (hnc.more gc) hio)
                      have HTK := Lib.hid htk
                      have HDP := Lib.hid (gcd_lim (b := val 4294967296 x.limbs) hdp hdl)
                      have HGY := Lib.hid (gb_trans hgy (gb_none gc))
                      have HD2 := Lib.hid hd2
                      have HTL := Lib.hid htl
                      have hsl := HSL.out
                      clear htk hio hdp hdl hdn hdb hgn hnc hcb gc hy9 hgy hd2 hI
                      go_wp2_with fail
                      clear u0 u1 u2 k0 k1 k2 d0 d1
                      generalize wr.alloc (.cells #[.int .i64 x.col, .bool x.neg, .slice A' n' c'] 55) = wx1 at *
                      refine HGC.out.mono ?_
                      rintro e w11 ⟨A, n, c, rfl, hn, hg11⟩
                      have hd3 := HD2.out.more hg11
                      obtain ⟨d0, d1, _⟩ := hd3.two
                      have f0 := hd3.free 0
                      have f1 := hd3.free 1
                      have HS2 := Lib.hid (store2 hd3 false A n c)
                      have HN := hn
                      have HG11 := Lib.hid (gb_trans HGY.out (gb_none hg11))
                      clear hn hg11 hd3 HGC
                      go_wp2_with fail
                      obtain ⟨W, hW, hWB, hWG, hWN⟩ := HS2.out
                      have htl := HTL.out
                      have hsl := HSL.out
                      try rw [hW]
                      exact ⟨⟨t + 1, by omega, by go_num, gb_trans HG11.out hWG, Lib.hid (by rw [HTK.out]; exact ⟨A, n, c, hWB, hWN _ _ HN.out, HDP.out.1, HDP.out.2⟩)⟩, by simp [intOf]; omega⟩
                    · obtain rfl : t = r.h.length := by omega
                      have hgn' := hgn.out
                      rw [List.take_length] at hgn'
                      have HGN := Lib.hid hgn'
                      have HGY := Lib.hid hgy
                      clear hgn hgn' hgy
                      go_wp2_with fail
                      exact ⟨⟨(1 + 1 : Int), (1 + 1 : Nat), by omega, by first | rfl | go_num, HGY.out, HGN⟩, by simp [intOf]⟩
              · as_aux_lemma =>
                  have HSL : Hid (r.s.length ≤ 9223372036854775807) := Lib.hid (by obtain ⟨_, _, _, h1, h2⟩ := HRS.out.ctor; omega)
                  have HGX := Lib.hid hgx
                  clear hgx
                  go_wp2_with fail
                  clear n0 n1 n2
                  go_loopw [80] (fun i wy => ∃ t : Nat, t ≤ r.s.length ∧ i = .int .i64 t ∧ w9.grownBy wy (some db) ∧ Hid (GNow wy db (gcdCells (gAt r 2) (r.s.take t)))) (fun i _ => (r.s.length - intOf i).toNat)
                  case atStart => exact ⟨0, by omega, rfl, HGX.out, hgn⟩
                  case round =>
                    obtain ⟨t, ht, rfl, hgy, hgn⟩ := hrel
                    by_cases htl : t < r.s.length
                    · have hy9 := gb_new HR9.out hgy HDB.out
                      obtain ⟨bc, oc, A', n', c', rfl, hI, u0, u1, u2, hnc⟩ := (HRS.out.more hy9).at htl
                      obtain ⟨Ad, nd, cd, hdb, hdn, hdp, hdl⟩ := hgn.out
                      have htk := take_succ_c htl (gAt r 2)
                      obtain ⟨_, _, _, hio, _⟩ := HOS.out t htl
                      generalize r.s.getD t cell0 = x at *
                      have gc := gb_alloc wr (.cells #[.int .i64 x.col, .bool x.neg, .slice A' n' c'] 55) none
                      have hcb := Blk.new wr #[.int .i64 x.col, .bool x.neg, .slice A' n' c'] 55
                      have k0 := hcb.cell 0
                      have k1 := hcb.cell 1
                      have k2 := hcb.cell 2
                      simp only [List.getElem?_toArray, List.getElem?_cons_zero, List.getElem?_cons_succ] at k0 k1 k2
                      have hd2 := hdb.more gc
                      obtain ⟨d0, d1, _⟩ := hd2.two
                      have HGC := Lib.hid (gcd_call (wr.alloc (.cells #[.int .i64 x.col, .bool x.neg, .slice A' n' c'] 55)) _ hdp hdl _ _ x.neg _ x.limbs (hdn.more gc) rfl (hnc.more gc) hio)
                      have HTK := Lib.hid htk
                      have HDP := Lib.hid (gcd_lim (b := val 4294967296 x.limbs) hdp hdl)
                      have HGY := Lib.hid (gb_trans hgy (gb_none gc))
                      have HD2 := Lib.hid hd2
                      have HTL := Lib.hid htl
                      have hsl := HSL.out
                      clear htk hio hdp hdl hdn hdb hgn hnc hcb gc hy9 hgy hd2 hI
                      go_wp2_with fail
                      clear u0 u1 u2 k0 k1 k2 d0 d1
                      generalize wr.alloc (.cells #[.int .i64 x.col, .bool x.neg, .slice A' n' c'] 55) = wx1 at *
                      refine HGC.out.mono ?_
                      rintro e w11 ⟨A, n, c, rfl, hn, hg11⟩
                      have hd3 := HD2.out.more hg11
                      obtain ⟨d0, d1, _⟩ := hd3.two
                      have f0 := hd3.free 0
                      have f1 := hd3.free 1
                      have HS2 := Lib.hid (store2 hd3 false A n c)
                      have HN := hn
                      have HG11 := Lib.hid (gb_trans HGY.out (gb_none hg11))
                      clear hn hg11 hd3 HGC
                      go_wp2_with fail
                      obtain ⟨W, hW, hWB, hWG, hWN⟩ := HS2.out
                      have htl := HTL.out
                      have hsl := HSL.out
                      try rw [hW]
                      exact ⟨⟨t + 1, by omega, by go_num, gb_trans HG11.out hWG, Lib.hid (by rw [HTK.out]; exact ⟨A, n, c, hWB, hWN _ _ HN.out, HDP.out.1, HDP.out.2⟩)⟩, by simp [intOf]; omega⟩
                    · obtain rfl : t = r.s.length := by omega
                      have hgn' := hgn.out
                      rw [List.take_length] at hgn'
                      have HGN := Lib.hid hgn'
                      have HGY := Lib.hid hgy
                      clear hgn hgn' hgy
                      go_wp2_with fail
                      exact ⟨⟨(2 + 1 : Int), (2 + 1 : Nat), by omega, by first | rfl | go_num, HGY.out, HGN⟩, by simp [intOf]⟩
              · as_aux_lemma =>
                  obtain ⟨Ad, nd, cd, hdb, hdn, _, _⟩ := hgn.out
                  rw [gAt_3, HONE.out] at hdn
                  have hgr := gb_new HR9.out hgx HDB.out
                  obtain ⟨d0, d1, _⟩ := hdb.two
                  have HCW := Lib.hid (fun w' (h : wr.grownBy w' none) => And.intro (gb_cell h d0 (by simp)) (gb_cell h d1 (by simp)))
                  have HDN := Lib.hid hdn
                  have HGF := Lib.hid (gb_trans HGR.out hgr)
                  have HLK := Lib.hid (show k + 1 ≤ V.length from HLT.out)
                  have e1 : (k : Int) < (V.length : Int) := by have := HLT.out; omega
                  clear hgn hdb hdn hgr hgx
                  go_wp2_with fail
                  go_region_held3 (fun W => W.cell? ⟨db, 0, none⟩ = some (.bool false) ∧ W.cell? ⟨db, 1, none⟩ = some (.slice Ad nd cd)) ((refine HCW.out _ ?_; (focus ((repeat (first | assumption | exact gb_refl _ _ | exact gb_drew _ _ | exact gb_alloc _ _ _ | refine gb_trans ?_ (gb_alloc _ _ _) | refine gb_trans ?_ (gb_drew _ _) | refine gb_trans ?_ (by assumption))); done)))) (first
                    | (go_at_call 32; refine (LOf_calls _ 1 (by decide) (by decide)).mono ?_; rintro e w12 ⟨s1, rfl, hn1, hf1, hg12⟩)
                    | (go_at_call 31; refine (same_calls _ false _ _ _ (HDN.out.more (by (focus ((repeat (first | assumption | exact gb_refl _ _ | exact gb_drew _ _ | exact gb_alloc _ _ _ | refine gb_trans ?_ (gb_alloc _ _ _) | refine gb_trans ?_ (gb_drew _ _) | refine gb_trans ?_ (by assumption))); done)))) hn1).mono ?_; rintro e w13 ⟨rfl, hg13⟩))
                  all_goals
                    have hlt' := HLK.out
                    have hv48 := sysE_len HV2.out
                    go_wp2_with fail
                    exact ⟨⟨k + 1, hlt', by go_num, gb_trans HGF.out (by (focus ((repeat (first | assumption | exact gb_refl _ _ | exact gb_drew _ _ | exact gb_alloc _ _ _ | refine gb_trans ?_ (gb_alloc _ _ _) | refine gb_trans ?_ (gb_drew _ _) | refine gb_trans ?_ (by assumption))); done)))⟩, by simp [intOf]; omega⟩
        · as_aux_lemma =>
            obtain rfl : k = V.length := by omega
            go_wp2_with fail
            go_ret
            exact ⟨rfl, gb_trans HGW.out (gb_trans HG6.out hg)⟩
    · have hV := HNO.out hE
      subst hV
      have tE : (E != 0) = true := by rw [bne_iff_ne]; exact hE
      clear HYES HNO
      go_wp2_with fail
      go_ret
      exact ⟨rfl, gb_trans HGW.out HGA.out⟩

end Go.Proofs.YtmfmfpmkgmkgiaaGreatDoor
