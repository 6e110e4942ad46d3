/- Contracts of the program's functions, and what they rest on: RefO. -/
import Derived.Test.YtmfmfpmkgmkgiaaGreatDoorMax
import Derived.Test.YtmfmfpmkgmkgiaaGreatDoorMaq
import Derived.Test.YtmfmfpmkgmkgiaaGreatDoorMaw
import Derived.Deep.RegionLaw
import Derived.Deep.DrawnRows
set_option linter.unusedVariables false
set_option linter.unusedSimpArgs false
namespace Go.Proofs.YtmfmfpmkgmkgiaaGreatDoor
open Go.RowKit Go.Maps
open Rat
theorem step_call2 {P : Program} {w : World} {ops : Array Oper} {o : Oper} {a : Act} {K : Act → World → Prop} {Q : Exit → Act → World → Prop} {E : Prop} (hgd : o.guard = none) (f : FuncId) (x y : Operand) (tx ty : TypeId)
    (ho : o.op = .call { callee := .value (.func f), args := #[x, y], argTypes := #[tx, ty] }) (u v : Value) (hu : a.eval x = u) (hv : a.eval y = v)
    (henter : ∀ args w, (callFunc f args).run P w = .ok (.enter f args) w)
    (R : Value → World → Prop) (hC : Calls P f #[u, v] w fun e w' => ∃ v, e = .returned v ∧ R v w') (hK : ∀ v w', R v w' → K (a.put o.dst v) w') :
    if Region.wanted o (yielded ops a.tmps) = true then Oper.wp P o a w K Q else E := by
  have hw : Region.wanted o (yielded ops a.tmps) = true := by simp [Region.wanted, hgd]
  rw [if_pos hw]
  have hf : a.eval (.func f) = .func (.func f) #[] #[] := rfl
  have hrun : (execOp a.eval o).run P w = .ok (.enter f #[u, v]) w := by
    generalize a.eval = ev at *
    simp [execOp, ho, resolve, invoke, hu, hv, hf, henter, go_sem]
  unfold Oper.wp
  rw [hrun]
  simp only [Oper.upon]
  refine hC.mono ?_
  rintro e w' ⟨v, rfl, hr⟩
  exact hK v w' hr

theorem accZ_next (k : Int) (l : List CellP) (x : List Int) (t : Nat) : accZ k l x (t + 1) = accZ k l x t + (l.getD t cell0).z * x.getD (l.getD t cell0).col.toNat 0 := rfl
set_option maxRecDepth 100000 in
set_option maxHeartbeats 40000000 in
theorem MSide_calls (w : World) (r : RowP) (mn : Bool) (Am Aa Ah As Ak : Option Addr) (nm cm na ca ch cs nk ck : Nat) (vp vs : Value) (prev src : List Int) (rh : CellRow w (.slice Ah r.h.length ch) r.h) (rs : CellRow w (.slice As r.s.length cs) r.s) (rk : Nums w (.slice Ak nk ck) r.klimbs) (hp : IntRow w vp prev) (hs : IntRow w vs src)
    (hkl : r.klimbs.length ≤ 72) (h1 : sumOK r.k r.h prev) (h2 : sumOK (accZ r.k r.h prev r.h.length) r.s src) :
    Calls Tryz.prog 64 #[.agg #[.bool mn, .slice Am nm cm, .slice Aa na ca, .slice Ah r.h.length ch, .slice As r.s.length cs, .bool r.kneg, .slice Ak nk ck], vp, vs] w fun e w' => ∃ nv, e = .returned nv ∧ NZ w' nv (sideZ r prev src) ∧ w.grownBy w' none := by
  obtain ⟨Ap, cp, rfl, p1, p2⟩ := hp.ctor
  obtain ⟨As', cs', rfl, s1, s2⟩ := hs.ctor
  have g1 := gb_alloc w (.cells #[.bool mn, .slice Am nm cm, .slice Aa na ca, .slice Ah r.h.length ch, .slice As r.s.length cs, .bool r.kneg, .slice Ak nk ck] 52) none
  have g2 := gb_alloc (w.alloc (.cells #[.bool mn, .slice Am nm cm, .slice Aa na ca, .slice Ah r.h.length ch, .slice As r.s.length cs, .bool r.kneg, .slice Ak nk ck] 52)) (.cells #[.bool false, .slice none 0 0] 122) none
  have gw := gb_trans g1 g2
  have hBX := (Blk.new w #[.bool mn, .slice Am nm cm, .slice Aa na ca, .slice Ah r.h.length ch, .slice As r.s.length cs, .bool r.kneg, .slice Ak nk ck] 52).more g2
  have hB0 := Blk.new (w.alloc (.cells #[.bool mn, .slice Am nm cm, .slice Aa na ca, .slice Ah r.h.length ch, .slice As r.s.length cs, .bool r.kneg, .slice Ak nk ck] 52)) #[.bool false, .slice none 0 0] 122
  rw [World.size_alloc] at hB0
  have hsz : ((w.alloc (.cells #[.bool mn, .slice Am nm cm, .slice Aa na ca, .slice Ah r.h.length ch, .slice As r.s.length cs, .bool r.kneg, .slice Ak nk ck] 52)).alloc (.cells #[.bool false, .slice none 0 0] 122)).heap.size = w.heap.size + 1 + 1 := by simp
  have HBX := Lib.hid hBX
  have HB0 := Lib.hid hB0
  have HRH := Lib.hid (rh.more gw)
  have HRS := Lib.hid (rs.more gw)
  have HRK := Lib.hid (rk.more gw)
  have HPR := Lib.hid (hp.more gw)
  have HSR := Lib.hid (hs.more gw)
  have HGW := Lib.hid gw
  have HSZ := Lib.hid hsz
  have HSUM1 := Lib.hid h1
  have HSUM2 := Lib.hid h2
  obtain ⟨m0, m1, m2, m3, m4, m5, m6⟩ := hBX.seven
  clear rh rs rk hp hs gw hsz hB0 hBX g1 g2 h1 h2
  go_enter Tryz.func64, Tryz.ntmps64
  go_wp2_with fail
  generalize (w.alloc (.cells #[.bool mn, .slice Am nm cm, .slice Aa na ca, .slice Ah r.h.length ch, .slice As r.s.length cs, .bool r.kneg, .slice Ak nk ck] 52)).alloc (.cells #[.bool false, .slice none 0 0] 122) = wa at *
  generalize hsw : w.heap.size = s at *
  have HSW := Lib.hid hsw
  clear hsw
  refine (MTake_calls wa r.kneg _ r.klimbs HRK.out (by omega)).mono ?_
  rintro e w3 ⟨nv, rfl, hz3, hg3⟩
  obtain ⟨v3, rfl, hd3⟩ := hz3
  obtain ⟨A3, c3, rfl, _⟩ := id hd3.ctor
  have hkz : sg r.kneg (val 4294967296 r.klimbs) = accZ r.k r.h prev 0 := rfl
  rw [hkz] at hd3 ⊢
  clear m0 m1 m2 m3 m4 m5 m6
  obtain ⟨m0, m1, m2, m3, m4, m5, m6⟩ := (HBX.out.more hg3).seven
  have gz := gb_alloc w3 (.cells #[.bool (decide (accZ r.k r.h prev 0 < 0)), .slice A3 (d16 (accZ r.k r.h prev 0)).length c3] 122) none
  have hBZ := Blk.new w3 #[.bool (decide (accZ r.k r.h prev 0 < 0)), .slice A3 (d16 (accZ r.k r.h prev 0)).length c3] 122
  have hd4 := hd3.more gz
  have HZ0 := Lib.hid (show ∃ (A : Option Addr) (n c : Nat), Blk (w3.alloc (.cells #[.bool (decide (accZ r.k r.h prev 0 < 0)), .slice A3 (d16 (accZ r.k r.h prev 0)).length c3] 122)) w3.heap.size #[.bool (decide (accZ r.k r.h prev 0 < 0)), .slice A n c] ∧ D16 (w3.alloc (.cells #[.bool (decide (accZ r.k r.h prev 0 < 0)), .slice A3 (d16 (accZ r.k r.h prev 0)).length c3] 122)) (.slice A n c) (d16 (accZ r.k r.h prev 0)) from ⟨_, _, _, hBZ, hd4⟩)
  have HGZ := Lib.hid (gb_trans hg3 gz)
  have hws : wa.heap.size ≤ w3.heap.size := hg3.size
  have HWS := Lib.hid hws
  clear hg3 hd3 hBZ hd4 gz hkz hws
  go_wp2_with fail
  obtain ⟨zb, hzb⟩ : ∃ zb, zb = w3.heap.size := ⟨_, rfl⟩
  rw [← hzb] at HZ0 HWS ⊢
  clear hzb
  clear m0 m1 m2 m3 m4 m5 m6
  go_loopw [8] (fun iv wx => ∃ t : Nat, t ≤ r.h.length ∧ iv = .int .i64 t ∧ wa.grownBy wx none ∧ Hid (∃ (A : Option Addr) (n c : Nat), Blk wx zb #[.bool (decide (accZ r.k r.h prev t < 0)), .slice A n c] ∧ D16 wx (.slice A n c) (d16 (accZ r.k r.h prev t)))) (fun iv _ => (r.h.length - intOf iv).toNat)
  case atStart => exact ⟨0, by omega, rfl, HGZ.out, HZ0⟩
  case round =>
    obtain ⟨t, ht, rfl, hg, hz⟩ := hrel
    obtain ⟨m0, m1, m2, m3, m4, m5, m6⟩ := (HBX.out.more hg).seven
    by_cases htl : t < r.h.length
    · skip
      have HTL := Lib.hid htl
      obtain ⟨_, _, _, hl1, hl2⟩ := HRH.out.ctor
      have HLEN : Hid (r.h.length ≤ 9223372036854775807) := Lib.hid (by omega)
      clear hl1 hl2
      have hcell := HSUM1.out.1 t htl
      have hacc := HSUM1.out.2 t (by omega)
      have hacc2 := HSUM1.out.2 (t + 1) (by omega)
      obtain ⟨bc, oc, A', n', c', rfl, hI, u0, u1, u2, hnc⟩ := (HRH.out.more hg).at htl
      have hstep := accZ_next (r.k) r.h prev t
      generalize hcc : r.h.getD t cell0 = cc at *
      obtain ⟨col, neg, limbs⟩ := cc
      simp only [CellP.z] at hcell hI u0 u1 u2 hnc hstep
      obtain ⟨hc0, hc1, hc2, hc3⟩ := hcell
      obtain ⟨bx, ox, rfl, hI3, ux⟩ := (HPR.out.more hg).at (i := col.toNat) (by omega)
      generalize hxv : prev.getD col.toNat 0 = xv at *
      obtain ⟨Az, nz, cz, hbz, hdz⟩ := hz.out
      generalize hA' : accZ (r.k) r.h prev (t + 1) = acc' at *
      have HA' := Lib.hid hA'
      clear hA'
      generalize accZ (r.k) r.h prev t = acc at *
      generalize hzc : sg neg (val 4294967296 limbs) = zc at *
      have hlx : lim xv ≤ 2 := lim_i64 hI3.1 hI3.2
      have hlm : lim (zc * xv) ≤ 74 := Nat.le_trans (lim_mul _ _) (by omega)
      have l1 := d16_len zc
      have l2 := d16_len xv
      have l3 := d16_len (zc * xv)
      have l4 := d16_len acc
      have HSTEP := Lib.hid hstep
      have HGK := Lib.hid hg
      have HBZ := Lib.hid hbz
      have HDZ := Lib.hid hdz
      have hKK : ∀ W, wr.grownBy W none → W.cell? ⟨s, 3, none⟩ = some (.slice (some ⟨bc, oc, none⟩) r.h.length ch) ∧ W.cell? ⟨s, 4, none⟩ = some (.slice As r.s.length cs) ∧ W.cell? ⟨zb, 0, none⟩ = some (.bool (decide (acc < 0))) ∧ W.cell? ⟨zb, 1, none⟩ = some (.slice Az nz cz) ∧ W.frozen? ⟨zb, 0, none⟩ = false ∧ W.frozen? ⟨zb, 1, none⟩ = false ∧ W.cell? ⟨bc, oc + t * 3, none⟩ = some (.int .i64 col) ∧ W.cell? ⟨bc, oc + t * 3 + 1, none⟩ = some (.bool neg) ∧ W.cell? ⟨bc, oc + t * 3 + 2, none⟩ = some (.slice A' n' c') ∧ W.cell? ⟨bx, ox + col.toNat, none⟩ = some (.int .i64 xv) := fun W h => ⟨gb_cell h m3 (by simp), gb_cell h m4 (by simp), (hbz.more h).cell 0, (hbz.more h).cell 1, (hbz.more h).free 0, (hbz.more h).free 1, gb_cell h u0 (by simp), gb_cell h u1 (by simp), gb_cell h u2 (by simp), gb_cell h ux (by simp)⟩
      have HKK := Lib.hid hKK
      have hTK : ∀ W, wr.grownBy W none → Calls Tryz.prog 70 #[.agg #[.bool neg, .slice A' n' c']] W fun e w' => ∃ v, e = .returned v ∧ (NZ w' v zc ∧ W.grownBy w' none) := fun W h => (MTake_calls W neg _ limbs (hnc.more h) (by omega)).mono fun e w' hh => by
        obtain ⟨v, rfl, h1, h2⟩ := hh; rw [hzc] at h1; exact ⟨v, rfl, h1, h2⟩
      have hWD : ∀ W, wr.grownBy W none → Calls Tryz.prog 121 #[.int .i64 xv] W fun e w' => ∃ v, e = .returned v ∧ (NZ w' v xv ∧ W.grownBy w' none) := fun W h => (MWide_calls W xv hI3.1 hI3.2).mono fun e w' hh => by
        obtain ⟨v, rfl, h1, h2⟩ := hh; exact ⟨v, rfl, h1, h2⟩
      have hTM : ∀ W v1 v2, NZ W v1 zc → NZ W v2 xv → Calls Tryz.prog 107 #[v1, v2] W fun e w' => ∃ v, e = .returned v ∧ (NZ w' v (zc * xv) ∧ W.grownBy w' none) := fun W v1 v2 h1 h2 => (MTimes_calls W v1 v2 zc xv h1 h2 (by omega) (by omega)).mono fun e w' hh => by
        obtain ⟨v, rfl, h1, h2⟩ := hh; exact ⟨v, rfl, h1, h2⟩
      have hPL : ∀ W v1 v2, NZ W v1 acc → NZ W v2 (zc * xv) → Calls Tryz.prog 120 #[v1, v2] W fun e w' => ∃ v, e = .returned v ∧ (NZ w' v acc' ∧ W.grownBy w' none) := fun W v1 v2 h1 h2 => (MPlus_calls W v1 v2 acc (zc * xv) h1 h2 (by omega) (by omega)).mono fun e w' hh => by
        obtain ⟨v, rfl, h1, h2⟩ := hh; rw [← HSTEP.out] at h1; exact ⟨v, rfl, h1, h2⟩
      have HTMC := Lib.hid hTM
      have HPLC := Lib.hid hPL
      have HTKC := Lib.hid hTK
      have HWDC := Lib.hid hWD
      have E1 := Lib.hid (show ∀ args w, (callFunc 70 args).run Tryz.prog w = .ok (.enter 70 args) w from enters_of Tryz.func70 (by kernel_rfl) rfl)
      have E2 := Lib.hid (show ∀ args w, (callFunc 121 args).run Tryz.prog w = .ok (.enter 121 args) w from enters_of Tryz.func121 (by kernel_rfl) rfl)
      have E3 := Lib.hid (show ∀ args w, (callFunc 107 args).run Tryz.prog w = .ok (.enter 107 args) w from enters_of Tryz.func107 (by kernel_rfl) rfl)
      have E4 := Lib.hid (show ∀ args w, (callFunc 120 args).run Tryz.prog w = .ok (.enter 120 args) w from enters_of Tryz.func120 (by kernel_rfl) rfl)
      have hf0 := hbz.free 0
      have hf1 := hbz.free 1
      obtain ⟨k1, k2, k3, k4, k9, k10, k5, k6, k7, k8⟩ := HKK.out wr (gb_refl _ _)
      clear hKK hTK hWD hTM hPL hnc hzc hstep hcc hxv hg hz hbz hdz m0 m1 m2 m3 m4 m5 m6 u0 u1 u2 ux hacc hacc2 hlm hc3
      go_wp2_with fail
      refine region_T (S := (fun W => W.cell? ⟨s, 3, none⟩ = some (.slice (some ⟨bc, oc, none⟩) r.h.length ch) ∧ W.cell? ⟨s, 4, none⟩ = some (.slice As r.s.length cs) ∧ W.cell? ⟨zb, 0, none⟩ = some (.bool (decide (acc < 0))) ∧ W.cell? ⟨zb, 1, none⟩ = some (.slice Az nz cz) ∧ W.frozen? ⟨zb, 0, none⟩ = false ∧ W.frozen? ⟨zb, 1, none⟩ = false ∧ W.cell? ⟨bc, oc + t * 3, none⟩ = some (.int .i64 col) ∧ W.cell? ⟨bc, oc + t * 3 + 1, none⟩ = some (.bool neg) ∧ W.cell? ⟨bc, oc + t * 3 + 2, none⟩ = some (.slice A' n' c') ∧ W.cell? ⟨bx, ox + col.toNat, none⟩ = some (.int .i64 xv))) (z := 20) (by kernel_rfl) ?_
      have hS0 := HKK.out wr.drew (gb_drew _ _)
      refine wpT_take 0 (v := ?_) rfl (by kernel_rfl) (by kernel_rfl) (by kernel_rfl) (fun _ _ _ h => h) (by decide) (by kernel_rfl) (by rfl) ?_ (by assumption) ?_
      rotate_left
      · intro W hSw; (try dsimp only at hSw); go_simp; (try with_reducible rfl)
      try simp only [Act.put, List.setIfInBounds_toArray, List.set_cons_zero, List.set_cons_succ]
      refine wpT_take 1 (v := ?_) rfl (by kernel_rfl) (by kernel_rfl) (by kernel_rfl) (fun _ _ _ h => h) (by decide) (by kernel_rfl) (by rfl) ?_ (by assumption) ?_
      rotate_left
      · intro W hSw; (try dsimp only at hSw); go_simp; (try with_reducible rfl)
      try simp only [Act.put, List.setIfInBounds_toArray, List.set_cons_zero, List.set_cons_succ]
      refine wpT_take 2 (v := ?_) rfl (by kernel_rfl) (by kernel_rfl) (by kernel_rfl) (fun _ _ _ h => h) (by decide) (by kernel_rfl) (by rfl) ?_ (by assumption) ?_
      rotate_left
      · intro W hSw; (try dsimp only at hSw); go_simp; (try with_reducible rfl)
      try simp only [Act.put, List.setIfInBounds_toArray, List.set_cons_zero, List.set_cons_succ]
      refine wpT_take 3 (v := ?_) rfl (by kernel_rfl) (by kernel_rfl) (by kernel_rfl) (fun _ _ _ h => h) (by decide) (by kernel_rfl) (by rfl) ?_ (by assumption) ?_
      rotate_left
      · intro W hSw; (try dsimp only at hSw); go_simp; (try with_reducible rfl)
      try simp only [Act.put, List.setIfInBounds_toArray, List.set_cons_zero, List.set_cons_succ]
      refine wpT_take 4 (v := ?_) rfl (by kernel_rfl) (by kernel_rfl) (by kernel_rfl) (fun _ _ _ h => h) (by decide) (by kernel_rfl) (by rfl) ?_ (by assumption) ?_
      rotate_left
      · intro W hSw; (try dsimp only at hSw); go_simp; (try with_reducible rfl)
      try simp only [Act.put, List.setIfInBounds_toArray, List.set_cons_zero, List.set_cons_succ]
      refine wpT_take 5 (v := ?_) rfl (by kernel_rfl) (by kernel_rfl) (by kernel_rfl) (fun _ _ _ h => h) (by decide) (by kernel_rfl) (by rfl) ?_ (by assumption) ?_
      rotate_left
      · intro W hSw; (try dsimp only at hSw); go_simp; (try with_reducible rfl)
      try simp only [Act.put, List.setIfInBounds_toArray, List.set_cons_zero, List.set_cons_succ]
      refine wpT_take 6 (v := ?_) rfl (by kernel_rfl) (by kernel_rfl) (by kernel_rfl) (fun _ _ _ h => h) (by decide) (by kernel_rfl) (by rfl) ?_ (by assumption) ?_
      rotate_left
      · intro W hSw; (try dsimp only at hSw); go_simp; (try with_reducible rfl)
      try simp only [Act.put, List.setIfInBounds_toArray, List.set_cons_zero, List.set_cons_succ]
      refine wpT_take 8 (v := ?_) rfl (by kernel_rfl) (by kernel_rfl) (by kernel_rfl) (fun _ _ _ h => h) (by decide) (by kernel_rfl) (by rfl) ?_ (by assumption) ?_
      rotate_left
      · intro W hSw; (try dsimp only at hSw); go_simp; (try with_reducible rfl)
      try simp only [Act.put, List.setIfInBounds_toArray, List.set_cons_zero, List.set_cons_succ]
      refine wpT_take 9 (v := ?_) rfl (by kernel_rfl) (by kernel_rfl) (by kernel_rfl) (fun _ _ _ h => h) (by decide) (by kernel_rfl) (by rfl) ?_ (by assumption) ?_
      rotate_left
      · intro W hSw; (try dsimp only at hSw); go_simp; (try with_reducible rfl)
      try simp only [Act.put, List.setIfInBounds_toArray, List.set_cons_zero, List.set_cons_succ]
      refine wpT_take 10 (v := ?_) rfl (by kernel_rfl) (by kernel_rfl) (by kernel_rfl) (fun _ _ _ h => h) (by decide) (by kernel_rfl) (by rfl) ?_ (by assumption) ?_
      rotate_left
      · intro W hSw; (try dsimp only at hSw); go_simp; (try with_reducible rfl)
      try simp only [Act.put, List.setIfInBounds_toArray, List.set_cons_zero, List.set_cons_succ]
      refine wpT_take 11 (v := ?_) rfl (by kernel_rfl) (by kernel_rfl) (by kernel_rfl) (fun _ _ _ h => h) (by decide) (by kernel_rfl) (by rfl) ?_ (by assumption) ?_
      rotate_left
      · intro W hSw; (try dsimp only at hSw); go_simp; (try with_reducible rfl)
      try simp only [Act.put, List.setIfInBounds_toArray, List.set_cons_zero, List.set_cons_succ]
      refine wpT_take 12 (v := ?_) rfl (by kernel_rfl) (by kernel_rfl) (by kernel_rfl) (fun _ _ _ h => h) (by decide) (by kernel_rfl) (by rfl) ?_ (by assumption) ?_
      rotate_left
      · intro W hSw; (try dsimp only at hSw); go_simp; (try with_reducible rfl)
      try simp only [Act.put, List.setIfInBounds_toArray, List.set_cons_zero, List.set_cons_succ]
      refine wpT_take 13 (v := ?_) rfl (by kernel_rfl) (by kernel_rfl) (by kernel_rfl) (fun _ _ _ h => h) (by decide) (by kernel_rfl) (by rfl) ?_ (by assumption) ?_
      rotate_left
      · intro W hSw; (try dsimp only at hSw); go_simp; (try with_reducible rfl)
      try simp only [Act.put, List.setIfInBounds_toArray, List.set_cons_zero, List.set_cons_succ]
      refine wpT_take 14 (v := ?_) rfl (by kernel_rfl) (by kernel_rfl) (by kernel_rfl) (fun _ _ _ h => h) (by decide) (by kernel_rfl) (by rfl) ?_ (by assumption) ?_
      rotate_left
      · intro W hSw; (try dsimp only at hSw); go_simp; (try with_reducible rfl)
      try simp only [Act.put, List.setIfInBounds_toArray, List.set_cons_zero, List.set_cons_succ]
      refine wpT_take 15 (v := ?_) rfl (by kernel_rfl) (by kernel_rfl) (by kernel_rfl) (fun _ _ _ h => h) (by decide) (by kernel_rfl) (by rfl) ?_ (by assumption) ?_
      rotate_left
      · intro W hSw; (try dsimp only at hSw); go_simp; (try with_reducible rfl)
      try simp only [Act.put, List.setIfInBounds_toArray, List.set_cons_zero, List.set_cons_succ]
      refine wpT_take 16 (v := ?_) rfl (by kernel_rfl) (by kernel_rfl) (by kernel_rfl) (fun _ _ _ h => h) (by decide) (by kernel_rfl) (by rfl) ?_ (by assumption) ?_
      rotate_left
      · intro W hSw; (try dsimp only at hSw); go_simp; (try with_reducible rfl)
      try simp only [Act.put, List.setIfInBounds_toArray, List.set_cons_zero, List.set_cons_succ]
      refine wpT_only 7 (by kernel_rfl) rfl (fun K7 hK7 => ?_)
      refine step_call1 (by rfl) 70 (.tmp 26) _ (by rfl) (.agg #[.bool neg, .slice A' n' c']) (by rfl) E1.out _ (HTKC.out _ (gb_drew _ _)) ?_
      rintro v5 w5 ⟨hv5, hg5⟩
      have hS5 := HKK.out w5 (gb_trans (gb_drew _ _) hg5)
      have HV5 := Lib.hid hv5
      have HG5 := Lib.hid (gb_trans (gb_drew wr none) hg5)
      clear hv5 hg5
      refine hK7.out _ _ (fun _ => hS5) ?_
      try simp only [Act.put, List.setIfInBounds_toArray, List.set_cons_zero, List.set_cons_succ]
      refine wpT_only 17 (by kernel_rfl) rfl (fun K17 hK17 => ?_)
      refine step_call1 (by rfl) 121 (.tmp 36) _ (by rfl) (.int .i64 xv) (by rfl) E2.out _ (HWDC.out _ HG5.out) ?_
      rintro v6 w6 ⟨hv6, hg6⟩
      have HG6 := Lib.hid (gb_trans HG5.out hg6)
      have hS6 := HKK.out w6 HG6.out
      have HV5 := Lib.hid (HV5.out.more hg6)
      have HV6 := Lib.hid hv6
      clear hv6 hg6
      refine hK17.out _ _ (fun _ => hS6) ?_
      try simp only [Act.put, List.setIfInBounds_toArray, List.set_cons_zero, List.set_cons_succ]
      refine wpT_only 18 (by kernel_rfl) rfl (fun K18 hK18 => ?_)
      refine step_call2 (by rfl) 107 (.tmp 27) (.tmp 37) _ _ (by rfl) v5 v6 (by rfl) (by rfl) E3.out _ (HTMC.out _ v5 v6 HV5.out HV6.out) ?_
      rintro v7 w7 ⟨hv7, hg7⟩
      have HG7 := Lib.hid (gb_trans HG6.out hg7)
      have hS7 := HKK.out w7 HG7.out
      have HV7 := Lib.hid hv7
      clear hv7 hg7
      refine hK18.out _ _ (fun _ => hS7) ?_
      try simp only [Act.put, List.setIfInBounds_toArray, List.set_cons_zero, List.set_cons_succ]
      refine wpT_only 19 (by kernel_rfl) rfl (fun K19 hK19 => ?_)
      refine step_call2 (by rfl) 120 (.tmp 20) (.tmp 38) _ _ (by rfl) (.agg #[.bool (decide (acc < 0)), .slice Az nz cz]) v7 (by rfl) (by rfl) E4.out _ (HPLC.out _ _ v7 ⟨_, rfl, HDZ.out.more HG7.out⟩ HV7.out) ?_
      rintro v8 w8 ⟨hv8, hg8⟩
      obtain ⟨u8, rfl, hd8⟩ := hv8
      obtain ⟨A8, c8, rfl, _⟩ := id hd8.ctor
      have HG8 := Lib.hid (gb_trans HG7.out hg8)
      have hS8 := HKK.out w8 HG8.out
      have HD8 := Lib.hid hd8
      clear hd8 hg8
      refine hK19.out _ _ (fun _ => hS8) ?_
      try simp only [Act.put, List.setIfInBounds_toArray, List.set_cons_zero, List.set_cons_succ]
      refine wpT_only 20 (by kernel_rfl) rfl (fun K20 hK20 => ?_)
      clear hS0 hS5 hS6 hS7 k1 k2 k3 k4 k9 k10 k5 k6 k7 k8 hf0 hf1
      obtain ⟨k1, k2, k3, k4, k9, k10, k5, k6, k7, k8⟩ := hS8
      rw [if_pos (by rfl)]
      go_simp
      refine hK20.out _ _ (fun h => absurd rfl h) ?_
      refine wpT_done (by kernel_rfl) ?_
      have HBZ8 := HBZ.out.more HG8.out
      have hd9 := HD8.out.keep HBZ8 (by simp) (gb_trans (gb_set w8 zb 0 (.bool (decide (acc' < 0)))) (gb_set _ zb 1 (.slice A8 (d16 acc').length c8)))
      have hb9 := (HBZ8.set 0 (.bool (decide (acc' < 0)))).set 1 (.slice A8 (d16 acc').length c8)
      have hg9 := gb_new (gb_trans HGK.out HG8.out) (gb_trans (gb_set w8 zb 0 (.bool (decide (acc' < 0)))) (gb_set _ zb 1 (.slice A8 (d16 acc').length c8))) (by have := HWS.out; have := HGZ.out.size; omega)
      have htt : t < r.h.length := HTL.out
      have hLEN := HLEN.out
      generalize ((w8.setCell ⟨zb, 0, none⟩ (.bool (decide (acc' < 0)))).setCell ⟨zb, 1, none⟩ (.slice A8 (d16 acc').length c8)) = w9 at hd9 hb9 hg9 ⊢
      try simp only [Exit.inBlock, Exit.then]
      go_wp2_with fail
      exact ⟨⟨t + 1, by omega, by simp, hg9, Lib.hid ⟨_, _, _, by rw [HA'.out]; exact hb9, by rw [HA'.out]; exact hd9⟩⟩, by simp only [intOf]; omega⟩
    · have htt : t = r.h.length := by omega
      subst htt
      have HG1 := Lib.hid hg
      have HZ1 := Lib.hid hz
      clear hg hz
      go_wp2_with fail
      clear m0 m1 m2 m3 m4 m5 m6
      go_loopw [9] (fun iv wx => ∃ t : Nat, t ≤ r.s.length ∧ iv = .int .i64 t ∧ wa.grownBy wx none ∧ Hid (∃ (A : Option Addr) (n c : Nat), Blk wx zb #[.bool (decide (accZ (accZ r.k r.h prev r.h.length) r.s src t < 0)), .slice A n c] ∧ D16 wx (.slice A n c) (d16 (accZ (accZ r.k r.h prev r.h.length) r.s src t)))) (fun iv _ => (r.s.length - intOf iv).toNat)
      case atStart => exact ⟨0, by omega, rfl, HG1.out, HZ1.out⟩
      case round =>
        obtain ⟨t, ht, rfl, hg, hz⟩ := hrel
        obtain ⟨m0, m1, m2, m3, m4, m5, m6⟩ := (HBX.out.more hg).seven
        by_cases htl : t < r.s.length
        · skip
          have HTL := Lib.hid htl
          obtain ⟨_, _, _, hl1, hl2⟩ := HRS.out.ctor
          have HLEN : Hid (r.s.length ≤ 9223372036854775807) := Lib.hid (by omega)
          clear hl1 hl2
          have hcell := HSUM2.out.1 t htl
          have hacc := HSUM2.out.2 t (by omega)
          have hacc2 := HSUM2.out.2 (t + 1) (by omega)
          obtain ⟨bc, oc, A', n', c', rfl, hI, u0, u1, u2, hnc⟩ := (HRS.out.more hg).at htl
          have hstep := accZ_next (accZ r.k r.h prev r.h.length) r.s src t
          generalize hcc : r.s.getD t cell0 = cc at *
          obtain ⟨col, neg, limbs⟩ := cc
          simp only [CellP.z] at hcell hI u0 u1 u2 hnc hstep
          obtain ⟨hc0, hc1, hc2, hc3⟩ := hcell
          obtain ⟨bx, ox, rfl, hI3, ux⟩ := (HSR.out.more hg).at (i := col.toNat) (by omega)
          generalize hxv : src.getD col.toNat 0 = xv at *
          obtain ⟨Az, nz, cz, hbz, hdz⟩ := hz.out
          generalize hA' : accZ (accZ r.k r.h prev r.h.length) r.s src (t + 1) = acc' at *
          have HA' := Lib.hid hA'
          clear hA'
          generalize accZ (accZ r.k r.h prev r.h.length) r.s src t = acc at *
          generalize hzc : sg neg (val 4294967296 limbs) = zc at *
          have hlx : lim xv ≤ 2 := lim_i64 hI3.1 hI3.2
          have hlm : lim (zc * xv) ≤ 74 := Nat.le_trans (lim_mul _ _) (by omega)
          have l1 := d16_len zc
          have l2 := d16_len xv
          have l3 := d16_len (zc * xv)
          have l4 := d16_len acc
          have HSTEP := Lib.hid hstep
          have HGK := Lib.hid hg
          have HBZ := Lib.hid hbz
          have HDZ := Lib.hid hdz
          have hKK : ∀ W, wr.grownBy W none → W.cell? ⟨s, 3, none⟩ = some (.slice Ah r.h.length ch) ∧ W.cell? ⟨s, 4, none⟩ = some (.slice (some ⟨bc, oc, none⟩) r.s.length cs) ∧ W.cell? ⟨zb, 0, none⟩ = some (.bool (decide (acc < 0))) ∧ W.cell? ⟨zb, 1, none⟩ = some (.slice Az nz cz) ∧ W.frozen? ⟨zb, 0, none⟩ = false ∧ W.frozen? ⟨zb, 1, none⟩ = false ∧ W.cell? ⟨bc, oc + t * 3, none⟩ = some (.int .i64 col) ∧ W.cell? ⟨bc, oc + t * 3 + 1, none⟩ = some (.bool neg) ∧ W.cell? ⟨bc, oc + t * 3 + 2, none⟩ = some (.slice A' n' c') ∧ W.cell? ⟨bx, ox + col.toNat, none⟩ = some (.int .i64 xv) := fun W h => ⟨gb_cell h m3 (by simp), gb_cell h m4 (by simp), (hbz.more h).cell 0, (hbz.more h).cell 1, (hbz.more h).free 0, (hbz.more h).free 1, gb_cell h u0 (by simp), gb_cell h u1 (by simp), gb_cell h u2 (by simp), gb_cell h ux (by simp)⟩
          have HKK := Lib.hid hKK
          have hTK : ∀ W, wr.grownBy W none → Calls Tryz.prog 70 #[.agg #[.bool neg, .slice A' n' c']] W fun e w' => ∃ v, e = .returned v ∧ (NZ w' v zc ∧ W.grownBy w' none) := fun W h => (MTake_calls W neg _ limbs (hnc.more h) (by omega)).mono fun e w' hh => by
            obtain ⟨v, rfl, h1, h2⟩ := hh; rw [hzc] at h1; exact ⟨v, rfl, h1, h2⟩
          have hWD : ∀ W, wr.grownBy W none → Calls Tryz.prog 121 #[.int .i64 xv] W fun e w' => ∃ v, e = .returned v ∧ (NZ w' v xv ∧ W.grownBy w' none) := fun W h => (MWide_calls W xv hI3.1 hI3.2).mono fun e w' hh => by
            obtain ⟨v, rfl, h1, h2⟩ := hh; exact ⟨v, rfl, h1, h2⟩
          have hTM : ∀ W v1 v2, NZ W v1 zc → NZ W v2 xv → Calls Tryz.prog 107 #[v1, v2] W fun e w' => ∃ v, e = .returned v ∧ (NZ w' v (zc * xv) ∧ W.grownBy w' none) := fun W v1 v2 h1 h2 => (MTimes_calls W v1 v2 zc xv h1 h2 (by omega) (by omega)).mono fun e w' hh => by
            obtain ⟨v, rfl, h1, h2⟩ := hh; exact ⟨v, rfl, h1, h2⟩
          have hPL : ∀ W v1 v2, NZ W v1 acc → NZ W v2 (zc * xv) → Calls Tryz.prog 120 #[v1, v2] W fun e w' => ∃ v, e = .returned v ∧ (NZ w' v acc' ∧ W.grownBy w' none) := fun W v1 v2 h1 h2 => (MPlus_calls W v1 v2 acc (zc * xv) h1 h2 (by omega) (by omega)).mono fun e w' hh => by
            obtain ⟨v, rfl, h1, h2⟩ := hh; rw [← HSTEP.out] at h1; exact ⟨v, rfl, h1, h2⟩
          have HTMC := Lib.hid hTM
          have HPLC := Lib.hid hPL
          have HTKC := Lib.hid hTK
          have HWDC := Lib.hid hWD
          have E1 := Lib.hid (show ∀ args w, (callFunc 70 args).run Tryz.prog w = .ok (.enter 70 args) w from enters_of Tryz.func70 (by kernel_rfl) rfl)
          have E2 := Lib.hid (show ∀ args w, (callFunc 121 args).run Tryz.prog w = .ok (.enter 121 args) w from enters_of Tryz.func121 (by kernel_rfl) rfl)
          have E3 := Lib.hid (show ∀ args w, (callFunc 107 args).run Tryz.prog w = .ok (.enter 107 args) w from enters_of Tryz.func107 (by kernel_rfl) rfl)
          have E4 := Lib.hid (show ∀ args w, (callFunc 120 args).run Tryz.prog w = .ok (.enter 120 args) w from enters_of Tryz.func120 (by kernel_rfl) rfl)
          have hf0 := hbz.free 0
          have hf1 := hbz.free 1
          obtain ⟨k1, k2, k3, k4, k9, k10, k5, k6, k7, k8⟩ := HKK.out wr (gb_refl _ _)
          clear hKK hTK hWD hTM hPL hnc hzc hstep hcc hxv hg hz hbz hdz m0 m1 m2 m3 m4 m5 m6 u0 u1 u2 ux hacc hacc2 hlm hc3
          go_wp2_with fail
          refine region_T (S := (fun W => W.cell? ⟨s, 3, none⟩ = some (.slice Ah r.h.length ch) ∧ W.cell? ⟨s, 4, none⟩ = some (.slice (some ⟨bc, oc, none⟩) r.s.length cs) ∧ W.cell? ⟨zb, 0, none⟩ = some (.bool (decide (acc < 0))) ∧ W.cell? ⟨zb, 1, none⟩ = some (.slice Az nz cz) ∧ W.frozen? ⟨zb, 0, none⟩ = false ∧ W.frozen? ⟨zb, 1, none⟩ = false ∧ W.cell? ⟨bc, oc + t * 3, none⟩ = some (.int .i64 col) ∧ W.cell? ⟨bc, oc + t * 3 + 1, none⟩ = some (.bool neg) ∧ W.cell? ⟨bc, oc + t * 3 + 2, none⟩ = some (.slice A' n' c') ∧ W.cell? ⟨bx, ox + col.toNat, none⟩ = some (.int .i64 xv))) (z := 20) (by kernel_rfl) ?_
          have hS0 := HKK.out wr.drew (gb_drew _ _)
          refine wpT_take 0 (v := ?_) rfl (by kernel_rfl) (by kernel_rfl) (by kernel_rfl) (fun _ _ _ h => h) (by decide) (by kernel_rfl) (by rfl) ?_ (by assumption) ?_
          rotate_left
          · intro W hSw; (try dsimp only at hSw); go_simp; (try with_reducible rfl)
          try simp only [Act.put, List.setIfInBounds_toArray, List.set_cons_zero, List.set_cons_succ]
          refine wpT_take 1 (v := ?_) rfl (by kernel_rfl) (by kernel_rfl) (by kernel_rfl) (fun _ _ _ h => h) (by decide) (by kernel_rfl) (by rfl) ?_ (by assumption) ?_
          rotate_left
          · intro W hSw; (try dsimp only at hSw); go_simp; (try with_reducible rfl)
          try simp only [Act.put, List.setIfInBounds_toArray, List.set_cons_zero, List.set_cons_succ]
          refine wpT_take 2 (v := ?_) rfl (by kernel_rfl) (by kernel_rfl) (by kernel_rfl) (fun _ _ _ h => h) (by decide) (by kernel_rfl) (by rfl) ?_ (by assumption) ?_
          rotate_left
          · intro W hSw; (try dsimp only at hSw); go_simp; (try with_reducible rfl)
          try simp only [Act.put, List.setIfInBounds_toArray, List.set_cons_zero, List.set_cons_succ]
          refine wpT_take 3 (v := ?_) rfl (by kernel_rfl) (by kernel_rfl) (by kernel_rfl) (fun _ _ _ h => h) (by decide) (by kernel_rfl) (by rfl) ?_ (by assumption) ?_
          rotate_left
          · intro W hSw; (try dsimp only at hSw); go_simp; (try with_reducible rfl)
          try simp only [Act.put, List.setIfInBounds_toArray, List.set_cons_zero, List.set_cons_succ]
          refine wpT_take 4 (v := ?_) rfl (by kernel_rfl) (by kernel_rfl) (by kernel_rfl) (fun _ _ _ h => h) (by decide) (by kernel_rfl) (by rfl) ?_ (by assumption) ?_
          rotate_left
          · intro W hSw; (try dsimp only at hSw); go_simp; (try with_reducible rfl)
          try simp only [Act.put, List.setIfInBounds_toArray, List.set_cons_zero, List.set_cons_succ]
          refine wpT_take 5 (v := ?_) rfl (by kernel_rfl) (by kernel_rfl) (by kernel_rfl) (fun _ _ _ h => h) (by decide) (by kernel_rfl) (by rfl) ?_ (by assumption) ?_
          rotate_left
          · intro W hSw; (try dsimp only at hSw); go_simp; (try with_reducible rfl)
          try simp only [Act.put, List.setIfInBounds_toArray, List.set_cons_zero, List.set_cons_succ]
          refine wpT_take 6 (v := ?_) rfl (by kernel_rfl) (by kernel_rfl) (by kernel_rfl) (fun _ _ _ h => h) (by decide) (by kernel_rfl) (by rfl) ?_ (by assumption) ?_
          rotate_left
          · intro W hSw; (try dsimp only at hSw); go_simp; (try with_reducible rfl)
          try simp only [Act.put, List.setIfInBounds_toArray, List.set_cons_zero, List.set_cons_succ]
          refine wpT_take 8 (v := ?_) rfl (by kernel_rfl) (by kernel_rfl) (by kernel_rfl) (fun _ _ _ h => h) (by decide) (by kernel_rfl) (by rfl) ?_ (by assumption) ?_
          rotate_left
          · intro W hSw; (try dsimp only at hSw); go_simp; (try with_reducible rfl)
          try simp only [Act.put, List.setIfInBounds_toArray, List.set_cons_zero, List.set_cons_succ]
          refine wpT_take 9 (v := ?_) rfl (by kernel_rfl) (by kernel_rfl) (by kernel_rfl) (fun _ _ _ h => h) (by decide) (by kernel_rfl) (by rfl) ?_ (by assumption) ?_
          rotate_left
          · intro W hSw; (try dsimp only at hSw); go_simp; (try with_reducible rfl)
          try simp only [Act.put, List.setIfInBounds_toArray, List.set_cons_zero, List.set_cons_succ]
          refine wpT_take 10 (v := ?_) rfl (by kernel_rfl) (by kernel_rfl) (by kernel_rfl) (fun _ _ _ h => h) (by decide) (by kernel_rfl) (by rfl) ?_ (by assumption) ?_
          rotate_left
          · intro W hSw; (try dsimp only at hSw); go_simp; (try with_reducible rfl)
          try simp only [Act.put, List.setIfInBounds_toArray, List.set_cons_zero, List.set_cons_succ]
          refine wpT_take 11 (v := ?_) rfl (by kernel_rfl) (by kernel_rfl) (by kernel_rfl) (fun _ _ _ h => h) (by decide) (by kernel_rfl) (by rfl) ?_ (by assumption) ?_
          rotate_left
          · intro W hSw; (try dsimp only at hSw); go_simp; (try with_reducible rfl)
          try simp only [Act.put, List.setIfInBounds_toArray, List.set_cons_zero, List.set_cons_succ]
          refine wpT_take 12 (v := ?_) rfl (by kernel_rfl) (by kernel_rfl) (by kernel_rfl) (fun _ _ _ h => h) (by decide) (by kernel_rfl) (by rfl) ?_ (by assumption) ?_
          rotate_left
          · intro W hSw; (try dsimp only at hSw); go_simp; (try with_reducible rfl)
          try simp only [Act.put, List.setIfInBounds_toArray, List.set_cons_zero, List.set_cons_succ]
          refine wpT_take 13 (v := ?_) rfl (by kernel_rfl) (by kernel_rfl) (by kernel_rfl) (fun _ _ _ h => h) (by decide) (by kernel_rfl) (by rfl) ?_ (by assumption) ?_
          rotate_left
          · intro W hSw; (try dsimp only at hSw); go_simp; (try with_reducible rfl)
          try simp only [Act.put, List.setIfInBounds_toArray, List.set_cons_zero, List.set_cons_succ]
          refine wpT_take 14 (v := ?_) rfl (by kernel_rfl) (by kernel_rfl) (by kernel_rfl) (fun _ _ _ h => h) (by decide) (by kernel_rfl) (by rfl) ?_ (by assumption) ?_
          rotate_left
          · intro W hSw; (try dsimp only at hSw); go_simp; (try with_reducible rfl)
          try simp only [Act.put, List.setIfInBounds_toArray, List.set_cons_zero, List.set_cons_succ]
          refine wpT_take 15 (v := ?_) rfl (by kernel_rfl) (by kernel_rfl) (by kernel_rfl) (fun _ _ _ h => h) (by decide) (by kernel_rfl) (by rfl) ?_ (by assumption) ?_
          rotate_left
          · intro W hSw; (try dsimp only at hSw); go_simp; (try with_reducible rfl)
          try simp only [Act.put, List.setIfInBounds_toArray, List.set_cons_zero, List.set_cons_succ]
          refine wpT_take 16 (v := ?_) rfl (by kernel_rfl) (by kernel_rfl) (by kernel_rfl) (fun _ _ _ h => h) (by decide) (by kernel_rfl) (by rfl) ?_ (by assumption) ?_
          rotate_left
          · intro W hSw; (try dsimp only at hSw); go_simp; (try with_reducible rfl)
          try simp only [Act.put, List.setIfInBounds_toArray, List.set_cons_zero, List.set_cons_succ]
          refine wpT_only 7 (by kernel_rfl) rfl (fun K7 hK7 => ?_)
          refine step_call1 (by rfl) 70 (.tmp 53) _ (by rfl) (.agg #[.bool neg, .slice A' n' c']) (by rfl) E1.out _ (HTKC.out _ (gb_drew _ _)) ?_
          rintro v5 w5 ⟨hv5, hg5⟩
          have hS5 := HKK.out w5 (gb_trans (gb_drew _ _) hg5)
          have HV5 := Lib.hid hv5
          have HG5 := Lib.hid (gb_trans (gb_drew wr none) hg5)
          clear hv5 hg5
          refine hK7.out _ _ (fun _ => hS5) ?_
          try simp only [Act.put, List.setIfInBounds_toArray, List.set_cons_zero, List.set_cons_succ]
          refine wpT_only 17 (by kernel_rfl) rfl (fun K17 hK17 => ?_)
          refine step_call1 (by rfl) 121 (.tmp 63) _ (by rfl) (.int .i64 xv) (by rfl) E2.out _ (HWDC.out _ HG5.out) ?_
          rintro v6 w6 ⟨hv6, hg6⟩
          have HG6 := Lib.hid (gb_trans HG5.out hg6)
          have hS6 := HKK.out w6 HG6.out
          have HV5 := Lib.hid (HV5.out.more hg6)
          have HV6 := Lib.hid hv6
          clear hv6 hg6
          refine hK17.out _ _ (fun _ => hS6) ?_
          try simp only [Act.put, List.setIfInBounds_toArray, List.set_cons_zero, List.set_cons_succ]
          refine wpT_only 18 (by kernel_rfl) rfl (fun K18 hK18 => ?_)
          refine step_call2 (by rfl) 107 (.tmp 54) (.tmp 64) _ _ (by rfl) v5 v6 (by rfl) (by rfl) E3.out _ (HTMC.out _ v5 v6 HV5.out HV6.out) ?_
          rintro v7 w7 ⟨hv7, hg7⟩
          have HG7 := Lib.hid (gb_trans HG6.out hg7)
          have hS7 := HKK.out w7 HG7.out
          have HV7 := Lib.hid hv7
          clear hv7 hg7
          refine hK18.out _ _ (fun _ => hS7) ?_
          try simp only [Act.put, List.setIfInBounds_toArray, List.set_cons_zero, List.set_cons_succ]
          refine wpT_only 19 (by kernel_rfl) rfl (fun K19 hK19 => ?_)
          refine step_call2 (by rfl) 120 (.tmp 47) (.tmp 65) _ _ (by rfl) (.agg #[.bool (decide (acc < 0)), .slice Az nz cz]) v7 (by rfl) (by rfl) E4.out _ (HPLC.out _ _ v7 ⟨_, rfl, HDZ.out.more HG7.out⟩ HV7.out) ?_
          rintro v8 w8 ⟨hv8, hg8⟩
          obtain ⟨u8, rfl, hd8⟩ := hv8
          obtain ⟨A8, c8, rfl, _⟩ := id hd8.ctor
          have HG8 := Lib.hid (gb_trans HG7.out hg8)
          have hS8 := HKK.out w8 HG8.out
          have HD8 := Lib.hid hd8
          clear hd8 hg8
          refine hK19.out _ _ (fun _ => hS8) ?_
          try simp only [Act.put, List.setIfInBounds_toArray, List.set_cons_zero, List.set_cons_succ]
          refine wpT_only 20 (by kernel_rfl) rfl (fun K20 hK20 => ?_)
          clear hS0 hS5 hS6 hS7 k1 k2 k3 k4 k9 k10 k5 k6 k7 k8 hf0 hf1
          obtain ⟨k1, k2, k3, k4, k9, k10, k5, k6, k7, k8⟩ := hS8
          rw [if_pos (by rfl)]
          go_simp
          refine hK20.out _ _ (fun h => absurd rfl h) ?_
          refine wpT_done (by kernel_rfl) ?_
          have HBZ8 := HBZ.out.more HG8.out
          have hd9 := HD8.out.keep HBZ8 (by simp) (gb_trans (gb_set w8 zb 0 (.bool (decide (acc' < 0)))) (gb_set _ zb 1 (.slice A8 (d16 acc').length c8)))
          have hb9 := (HBZ8.set 0 (.bool (decide (acc' < 0)))).set 1 (.slice A8 (d16 acc').length c8)
          have hg9 := gb_new (gb_trans HGK.out HG8.out) (gb_trans (gb_set w8 zb 0 (.bool (decide (acc' < 0)))) (gb_set _ zb 1 (.slice A8 (d16 acc').length c8))) (by have := HWS.out; have := HGZ.out.size; omega)
          have htt : t < r.s.length := HTL.out
          have hLEN := HLEN.out
          generalize ((w8.setCell ⟨zb, 0, none⟩ (.bool (decide (acc' < 0)))).setCell ⟨zb, 1, none⟩ (.slice A8 (d16 acc').length c8)) = w9 at hd9 hb9 hg9 ⊢
          try simp only [Exit.inBlock, Exit.then]
          go_wp2_with fail
          exact ⟨⟨t + 1, by omega, by simp, hg9, Lib.hid ⟨_, _, _, by rw [HA'.out]; exact hb9, by rw [HA'.out]; exact hd9⟩⟩, by simp only [intOf]; omega⟩
        · have htt : t = r.s.length := by omega
          subst htt
          have HG2 := Lib.hid hg
          obtain ⟨Az, nz, cz, hbz, hdz⟩ := hz.out
          obtain ⟨k1, k2, k3, k4⟩ := hbz.two
          have HDZ := Lib.hid hdz
          have HBO := HB0.out.more hg
          have HBOH := Lib.hid HBO
          obtain ⟨k5, k6, k7, k8⟩ := HBO.two
          obtain ⟨Az', cz', hzv, _⟩ := id hdz.ctor
          injection hzv with hz1 hz2 hz3
          subst hz1 hz2 hz3
          clear hg hz hbz hdz m0 m1 m2 m3 m5 m6 HBO HG1
          generalize haz : accZ (accZ r.k r.h prev r.h.length) r.s src r.s.length = az at *
          have HAZ := Lib.hid haz
          clear haz
          go_wp2
          try simp only [Exit.inBlock, Exit.then]
          have hg6 : wr.grownBy ((wr.setCell ⟨s + 1, 0, none⟩ (.bool (decide (az < 0)))).setCell ⟨s + 1, 1, none⟩ (.slice Az (d16 az).length cz)) (some (s + 1)) := gb_trans (gb_set _ _ _ _) (gb_set _ _ _ _)
          have hd6 := HDZ.out.keep HBOH.out (by simp) hg6
          have hb6 := (HBOH.out.set 0 (.bool (decide (az < 0)))).set 1 (.slice Az (d16 az).length cz)
          obtain ⟨c0, c1, _, _⟩ := hb6.two
          refine bodyPost_ret (v := .agg #[.bool (decide (az < 0)), .slice Az (d16 az).length cz]) (by simp [results, Tryz.results64, go_sem, c0, c1]) rfl ⟨_, rfl, ⟨.slice Az (d16 az).length cz, ?_, ?_⟩, gb_new (gb_trans HGW.out HG2.out) hg6 (by have := HSW.out; omega)⟩
          · rw [show sideZ r prev src = az from HAZ.out]
          · rw [show sideZ r prev src = az from HAZ.out]; exact hd6

end Go.Proofs.YtmfmfpmkgmkgiaaGreatDoor
