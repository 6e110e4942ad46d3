/- Contracts of the program's functions, and what they rest on: StH ModE ModF ModG StL. -/
import Derived.Test.YtmfmfpmkgmkgiaaGreatDoorMas
import Derived.Test.YtmfmfpmkgmkgiaaGreatDoorMax
import Derived.Test.YtmfmfpmkgmkgiaaGreatDoorMah
import Derived.Deep.DeepCutAuto
set_option linter.unusedVariables false
set_option linter.unusedSimpArgs false
namespace Go.Proofs.YtmfmfpmkgmkgiaaGreatDoor
open Go.RowKit Go.Maps
open Rat

theorem kne {x : Int} {n : Int} (h : x ≠ n) : (x == n) = false := by rw [beq_eq_false_iff_ne]; exact h
set_option maxRecDepth 100000 in
set_option maxHeartbeats 40000000 in
theorem write_g (W0 w : World) (pb : Nat) (d : DevP) (An : Option Addr) (cn : Nat) (Av : Option Addr) (cv : Nat) (As : Option Addr) (cs : Nat) (Ag : Option Addr) (cg : Nat) (Am : Option Addr) (cm : Nat) (br : List Int) (k : Int) (L : List StampP) (h : PenS W0 w pb d An cn Av cv As cs Ag cg Am cm br k L) (hn : NodesOK d) (h2 : 4 ≤ d.nodes.length) (hkd : d.kind = 103) (hv : NumOK d.val.1 d.val.2) (hL : L.length ≤ 1000) (A1 : Option Addr) (n1 c1 : Nat) (A2 : Option Addr) (n2 c2 : Nat) (s1 s2 me mode method t1 t2 seg : Int) :
    Calls Tryz.prog 95 #[.pointer (some ⟨pb, 0, none⟩), .agg #[.slice A1 n1 c1, .slice A2 n2 c2, .int .i64 s1, .int .i64 s2, .int .i64 me], .agg #[.int .i64 mode, .int .i64 method, .int .i64 t1, .int .i64 t2], .int .i64 seg] w fun e w' => e = .returned (.tuple #[]) ∧ Hid (PenS W0 w' pb d An cn Av cv As cs Ag cg Am cm br k (L ++ conductL (d.at 0) (d.at 1) (d.at 2) (d.at 3) (numQ d.val.1 d.val.2)) ∧ Keeps w w') := by
  have tk1 := kne (show d.kind ≠ 114 by omega)
  have tk : (d.kind == 103) = true := by rw [beq_iff_eq]; exact hkd
  have HLQ := Lib.hid (limQ_num hv)
  clear hkd
  have gw := gb_trans (gb_trans (gb_alloc w (.cells #[.slice A1 n1 c1, .slice A2 n2 c2, .int .i64 s1, .int .i64 s2, .int .i64 me] 27) none) (gb_alloc (w.alloc (.cells #[.slice A1 n1 c1, .slice A2 n2 c2, .int .i64 s1, .int .i64 s2, .int .i64 me] 27)) (.cells #[.int .i64 mode, .int .i64 method, .int .i64 t1, .int .i64 t2] 29) none)) (gb_alloc ((w.alloc (.cells #[.slice A1 n1 c1, .slice A2 n2 c2, .int .i64 s1, .int .i64 s2, .int .i64 me] 27)).alloc (.cells #[.int .i64 mode, .int .i64 method, .int .i64 t1, .int .i64 t2] 29)) (.cells #[.bool false, .slice none 0 0, .bool false, .slice none 0 0] 178) none)
  have HP := Lib.hid (h.more gw)
  have HN := Lib.hid hn
  have HK := Lib.hid (Keeps.more gw)
  have HI := Lib.hid (fun i => hn.i64 i)
  have HV := Lib.hid hv
  have hvb := hv.bounds
  obtain ⟨c0, c4, c5, c14⟩ := HP.out.cells
  have hNV := NValid_calls (((w.alloc (.cells #[.slice A1 n1 c1, .slice A2 n2 c2, .int .i64 s1, .int .i64 s2, .int .i64 me] 27)).alloc (.cells #[.int .i64 mode, .int .i64 method, .int .i64 t1, .int .i64 t2] 29)).alloc (.cells #[.bool false, .slice none 0 0, .bool false, .slice none 0 0] 178)) d.val.1 d.val.2 (by omega) (by omega) (by omega) (by omega)
  rw [show decide (NumOK d.val.1 d.val.2) = true from decide_eq_true hv] at hNV
  have HNV := Lib.hid hNV
  clear h hn hv hNV
  go_enter Tryz.func95, Tryz.ntmps95
  go_wp2_with fail
  generalize ((w.alloc (.cells #[.slice A1 n1 c1, .slice A2 n2 c2, .int .i64 s1, .int .i64 s2, .int .i64 me] 27)).alloc (.cells #[.int .i64 mode, .int .i64 method, .int .i64 t1, .int .i64 t2] 29)).alloc (.cells #[.bool false, .slice none 0 0, .bool false, .slice none 0 0] 178) = wa at *
  refine HNV.out.mono ?_
  rintro e w1 ⟨rfl, hg1⟩
  have HP := Lib.hid (HP.out.more hg1)
  have HK := Lib.hid (HK.out.trans (Keeps.more hg1))
  clear c0 c4 c5 c14 HNV gw hg1
  obtain ⟨c0, c4, c5, c14⟩ := HP.out.cells
  go_wp2_with fail
  refine (svalue_calls w1 d.val.1 d.val.2 HV.out).mono ?_
  rintro e w2 ⟨xb, rfl, hx, hxb, hg2⟩
  have HP := Lib.hid (HP.out.more hg2)
  have HK := Lib.hid (HK.out.trans (Keeps.more hg2))
  have HX := Lib.hid hx
  clear c0 c4 c5 c14 hx hg2 hxb
  obtain ⟨c0, c4, c5, c14⟩ := HP.out.cells
  go_wp2_with fail
  refine (at_calls W0 w2 pb d An cn Av cv As cs Ag cg Am cm br k _ HP.out HN.out 2 (by omega) (by omega)).mono ?_
  rintro e w' ⟨rfl, rfl⟩
  go_wp2_with fail
  refine (at_calls W0 w2 pb d An cn Av cv As cs Ag cg Am cm br k _ HP.out HN.out 3 (by omega) (by omega)).mono ?_
  rintro e w' ⟨rfl, rfl⟩
  go_wp2_with fail
  refine (conduct_calls W0 w2 pb d An cn Av cv As cs Ag cg Am cm br k _ HP.out HN.out (by omega) (d.at 2) (d.at 3) (HI.out 2) (HI.out 3) xb _ HX.out (HLQ.out.mono (by omega)) (by omega)).mono ?_
  rintro e w4 ⟨rfl, h1⟩
  go_wp2_with fail
  go_end0
  exact ⟨rfl, Lib.hid ⟨h1.out.1, HK.out.trans h1.out.2⟩⟩

theorem outL_len (a b j : Int) : (outL a b j).length ≤ 2 := by unfold outL put1; split <;> split <;> simp
theorem acrossL_len (a b j : Int) : (acrossL a b j).length ≤ 2 := by unfold acrossL put1; split <;> split <;> simp
set_option maxRecDepth 100000 in
set_option maxHeartbeats 40000000 in
theorem write_e (W0 w : World) (pb : Nat) (d : DevP) (An : Option Addr) (cn : Nat) (Av : Option Addr) (cv : Nat) (As : Option Addr) (cs : Nat) (Ag : Option Addr) (cg : Nat) (Am : Option Addr) (cm : Nat) (br : List Int) (k : Int) (L : List StampP) (h : PenS W0 w pb d An cn Av cv As cs Ag cg Am cm br k L) (hn : NodesOK d) (h2 : 4 ≤ d.nodes.length) (hkd : d.kind = 101) (hv : NumOK d.val.1 d.val.2) (hL : L.length ≤ 1000) (hk0 : 0 ≤ k) (hk1 : k.toNat < br.length) (ij : I64 (br.getD k.toNat 0)) (A1 : Option Addr) (n1 c1 : Nat) (A2 : Option Addr) (n2 c2 : Nat) (s1 s2 me mode method t1 t2 seg : Int) :
    Calls Tryz.prog 95 #[.pointer (some ⟨pb, 0, none⟩), .agg #[.slice A1 n1 c1, .slice A2 n2 c2, .int .i64 s1, .int .i64 s2, .int .i64 me], .agg #[.int .i64 mode, .int .i64 method, .int .i64 t1, .int .i64 t2], .int .i64 seg] w fun e w' => e = .returned (.tuple #[]) ∧ Hid (PenS W0 w' pb d An cn Av cv As cs Ag cg Am cm br k (L ++ (outL (d.at 0) (d.at 1) (br.getD k.toNat 0) ++ (acrossL (d.at 0) (d.at 1) (br.getD k.toNat 0) ++ lessL (d.at 2) (d.at 3) (br.getD k.toNat 0) (numQ d.val.1 d.val.2)))) ∧ Keeps w w') := by
  have tk1 := kne (show d.kind ≠ 114 by omega)
  have tk2 := kne (show d.kind ≠ 103 by omega)
  have tk3 := kne (show d.kind ≠ 118 by omega)
  have tk4 := kne (show d.kind ≠ 105 by omega)
  have tk : (d.kind == 101) = true := by rw [beq_iff_eq]; exact hkd
  have HLQ := Lib.hid (limQ_num hv)
  have hout := fun w' L' (h' : PenS W0 w' pb d An cn Av cv As cs Ag cg Am cm br k L') (hl : L'.length ≤ 1000000) => out_calls W0 w' pb d An cn Av cv As cs Ag cg Am cm br k L' h' hn (by omega) hk0 hk1 ij hl
  have hacr := fun w' L' (h' : PenS W0 w' pb d An cn Av cv As cs Ag cg Am cm br k L') (hl : L'.length ≤ 1000000) => across_calls W0 w' pb d An cn Av cv As cs Ag cg Am cm br k L' h' hn (by omega) hk0 hk1 ij hl
  have hles := fun w' L' (h' : PenS W0 w' pb d An cn Av cv As cs Ag cg Am cm br k L') yb q hq lq (hl : L'.length ≤ 1000000) => less_calls W0 w' pb d An cn Av cv As cs Ag cg Am cm br k L' h' hn h2 hk0 hk1 ij yb q hq lq hl
  have HOUT := Lib.hid hout
  have HACR := Lib.hid hacr
  have HLES := Lib.hid hles
  clear hkd hout hacr hles ij
  generalize br.getD k.toNat 0 = J at *
  have l1 := outL_len (d.at 0) (d.at 1) J
  have l2 := acrossL_len (d.at 0) (d.at 1) J
  have hfin : L ++ outL (d.at 0) (d.at 1) J ++ acrossL (d.at 0) (d.at 1) J ++ lessL (d.at 2) (d.at 3) J (numQ d.val.1 d.val.2) = L ++ (outL (d.at 0) (d.at 1) J ++ (acrossL (d.at 0) (d.at 1) J ++ lessL (d.at 2) (d.at 3) J (numQ d.val.1 d.val.2))) := by simp only [List.append_assoc]
  have HFIN := Lib.hid hfin
  clear hfin
  have gw := gb_trans (gb_trans (gb_alloc w (.cells #[.slice A1 n1 c1, .slice A2 n2 c2, .int .i64 s1, .int .i64 s2, .int .i64 me] 27) none) (gb_alloc (w.alloc (.cells #[.slice A1 n1 c1, .slice A2 n2 c2, .int .i64 s1, .int .i64 s2, .int .i64 me] 27)) (.cells #[.int .i64 mode, .int .i64 method, .int .i64 t1, .int .i64 t2] 29) none)) (gb_alloc ((w.alloc (.cells #[.slice A1 n1 c1, .slice A2 n2 c2, .int .i64 s1, .int .i64 s2, .int .i64 me] 27)).alloc (.cells #[.int .i64 mode, .int .i64 method, .int .i64 t1, .int .i64 t2] 29)) (.cells #[.bool false, .slice none 0 0, .bool false, .slice none 0 0] 178) none)
  have HP := Lib.hid (h.more gw)
  have HN := Lib.hid hn
  have HK := Lib.hid (Keeps.more gw)
  have HI := Lib.hid (fun i => hn.i64 i)
  have HV := Lib.hid hv
  have hvb := hv.bounds
  obtain ⟨c0, c4, c5, c14⟩ := HP.out.cells
  have hNV := NValid_calls (((w.alloc (.cells #[.slice A1 n1 c1, .slice A2 n2 c2, .int .i64 s1, .int .i64 s2, .int .i64 me] 27)).alloc (.cells #[.int .i64 mode, .int .i64 method, .int .i64 t1, .int .i64 t2] 29)).alloc (.cells #[.bool false, .slice none 0 0, .bool false, .slice none 0 0] 178)) d.val.1 d.val.2 (by omega) (by omega) (by omega) (by omega)
  rw [show decide (NumOK d.val.1 d.val.2) = true from decide_eq_true hv] at hNV
  have HNV := Lib.hid hNV
  clear h hn hv hNV
  go_enter Tryz.func95, Tryz.ntmps95
  go_wp2_with fail
  generalize ((w.alloc (.cells #[.slice A1 n1 c1, .slice A2 n2 c2, .int .i64 s1, .int .i64 s2, .int .i64 me] 27)).alloc (.cells #[.int .i64 mode, .int .i64 method, .int .i64 t1, .int .i64 t2] 29)).alloc (.cells #[.bool false, .slice none 0 0, .bool false, .slice none 0 0] 178) = wa at *
  refine HNV.out.mono ?_
  rintro e w1 ⟨rfl, hg1⟩
  have HP := Lib.hid (HP.out.more hg1)
  have HK := Lib.hid (HK.out.trans (Keeps.more hg1))
  clear c0 c4 c5 c14 HNV gw hg1
  obtain ⟨c0, c4, c5, c14⟩ := HP.out.cells
  go_wp2_with fail
  refine (svalue_calls w1 d.val.1 d.val.2 HV.out).mono ?_
  rintro e w2 ⟨xb, rfl, hx, hxb, hg2⟩
  have HP := Lib.hid (HP.out.more hg2)
  have HK := Lib.hid (HK.out.trans (Keeps.more hg2))
  have HX := Lib.hid hx
  clear c0 c4 c5 c14 hx hg2 hxb
  obtain ⟨c0, c4, c5, c14⟩ := HP.out.cells
  go_wp2_with fail
  refine (HOUT.out w2 _ HP.out (by omega)).mono ?_
  rintro e w3 ⟨rfl, h1⟩
  have HP := Lib.hid h1.out.1
  have HK := Lib.hid (HK.out.trans h1.out.2)
  have HX := Lib.hid (h1.out.2.pen HX.out)
  clear h1 c0 c4 c5 c14
  go_wp2_with fail
  refine (HACR.out w3 _ HP.out (by rw [List.length_append]; omega)).mono ?_
  rintro e w4 ⟨rfl, h1⟩
  have HP := Lib.hid h1.out.1
  have HK := Lib.hid (HK.out.trans h1.out.2)
  have HX := Lib.hid (h1.out.2.pen HX.out)
  clear h1
  go_wp2_with fail
  refine (HLES.out w4 _ HP.out xb _ HX.out (HLQ.out.mono (by omega)) (by rw [List.length_append, List.length_append]; omega)).mono ?_
  rintro e w5 ⟨rfl, h1⟩
  go_wp2_with fail
  go_end0
  exact ⟨rfl, Lib.hid ⟨by rw [← HFIN.out]; exact h1.out.1, HK.out.trans h1.out.2⟩⟩

end Go.Proofs.YtmfmfpmkgmkgiaaGreatDoor

namespace Go.Proofs.YtmfmfpmkgmkgiaaGreatDoor
open Go.RowKit
open Rat

theorem lim_q9 : LimQ ((1000000000 : Int) /. 1) 1 := LimQ.divInt (by decide) (by decide) (by decide)

set_option maxRecDepth 100000 in
set_option maxHeartbeats 40000000 in
theorem knot_calls (w : World) (nm : ByteArray) (kind : Int) (vg vv : Value) (gs vs : List (Int × Int)) (k : Nat) (hg : NumRow w vg gs) (hv : NumRow w vv vs) (hk : k < vs.length) (hok : NumOK (vs.getD k (0, 0)).1 (vs.getD k (0, 0)).2) :
    Calls Tryz.prog 209 #[.agg #[.string nm, .int .u8 kind, vg, vv], .int .i64 k] w fun e w' => ∃ b, e = .returned (.pointer (some ⟨b, 0, none⟩)) ∧ RatB w' b (pQ (vs.getD k (0, 0)) * ((1000000000 : Int) /. 1)) ∧ w.heap.size ≤ b ∧ w.grownBy w' none := by
  obtain ⟨A1, c1, rfl, a1, a2, _, _⟩ := hg
  obtain ⟨A2, c2, rfl, b1, b2, _, b4⟩ := hv
  obtain ⟨b, o, rfl, hc⟩ := b4 (by omega)
  obtain ⟨p0, p1⟩ := hc k hk
  have hB := (Blk.new w #[.string nm, .int .u8 kind, .slice A1 gs.length c1, .slice (some ⟨b, o, none⟩) vs.length c2] 87)
  have ga := gb_alloc w (.cells #[.string nm, .int .u8 kind, .slice A1 gs.length c1, .slice (some ⟨b, o, none⟩) vs.length c2] 87) none
  have gb := gb_alloc (w.alloc (.cells #[.string nm, .int .u8 kind, .slice A1 gs.length c1, .slice (some ⟨b, o, none⟩) vs.length c2] 87)) (.cells #[.bool false, .slice none 0 0, .bool false, .slice none 0 0] 178) none
  have hz := RatB.new (w.alloc (.cells #[.string nm, .int .u8 kind, .slice A1 gs.length c1, .slice (some ⟨b, o, none⟩) vs.length c2] 87)) 178
  rw [World.size_alloc] at hz
  obtain ⟨m0, m1, m2, m3, _⟩ := (hB.more gb).four
  have gw := gb_trans ga gb
  have q0 := gb_cell gw p0 (by simp)
  have q1 := gb_cell gw p1 (by simp)
  have e1 : (k : Int) < (vs.length : Int) := by omega
  clear hc b4 hB p0 p1 ga
  generalize hp : vs.getD k (0, 0) = p at *
  obtain ⟨m, e⟩ := p
  have HOK := Lib.hid hok
  have hlq : LimQ (numQ m e) 3 := limQ_num hok
  simp only at q0 q1
  show Calls _ _ _ _ fun e' w' => ∃ b, e' = _ ∧ RatB w' b (numQ m e * ((1000000000 : Int) /. 1)) ∧ _
  clear hok hp
  generalize vs.length = lv at *
  go_enter Tryz.func209, Tryz.ntmps209
  go_wp2_with fail
  generalize (w.alloc (.cells #[.string nm, .int .u8 kind, .slice A1 gs.length c1, .slice (some ⟨b, o, none⟩) lv c2] 87)).alloc (.cells #[.bool false, .slice none 0 0, .bool false, .slice none 0 0] 178) = wa at *
  generalize hs : w.heap.size = s at *
  refine (mvalue_calls wa m e HOK.out).mono ?_
  rintro o' w1 ⟨b1', rfl, hr1, hb1, hg1⟩
  have zlt := hz.lt
  have s1 := hg1.size
  go_wp2_with fail
  refine (NewRat_calls w1 1000000000 1 (by omega) (by omega) (by omega) (by omega) (by omega)).mono ?_
  rintro o' w2 ⟨b2', rfl, hr2, hb2, hg2⟩
  go_wp2_with fail
  refine (RMul_calls w2 (s + 1) b1' b2' 0 (numQ m e) _ (hz.more (gb_trans hg1 hg2)) (hr1.more hg2) hr2 3 (by omega) hlq (lim_q9.mono (by omega))).mono ?_
  rintro o' w3 ⟨rfl, hr3, hg3⟩
  go_wp2
  go_ret
  exact ⟨s + 1, rfl, hr3, by omega, gb_new (gb_trans gw (gb_trans hg1 hg2)) hg3 (by omega)⟩

end Go.Proofs.YtmfmfpmkgmkgiaaGreatDoor

namespace Go.Proofs.YtmfmfpmkgmkgiaaGreatDoor
open Go.RowKit
open Rat
def partC (gs vs : List (Int × Int)) : Nat → Rat
  | 0 => 0
  | k + 1 => partC gs vs k + (pQ (gs.getD k (0, 0)) - pQ (gs.getD (k + 1) (0, 0))) * (pQ (vs.getD k (0, 0)) * ((1000000000 : Int) /. 1))
theorem LimQ.sub {p q : Rat} {k : Nat} (hp : LimQ p k) (hq : LimQ q k) : LimQ (p - q) (2 * k + 1) := by
  rw [Rat.sub_eq_add_neg]; exact hp.add hq.neg
theorem limQ_knot {p : Int × Int} (h : NumOK p.1 p.2) : LimQ (pQ p * ((1000000000 : Int) /. 1)) 6 := (limQ_num h).mul (lim_q9.mono (by omega))
theorem limQ_partC {gs vs : List (Int × Int)} (hg : ∀ k, k < gs.length → NumOK (gs.getD k (0, 0)).1 (gs.getD k (0, 0)).2) (hv : ∀ k, k < vs.length → NumOK (vs.getD k (0, 0)).1 (vs.getD k (0, 0)).2) :
    ∀ k, k < gs.length → k ≤ vs.length → k ≤ 3 → LimQ (partC gs vs k) (16 * 2 ^ k - 1)
  | 0, _, _, _ => LimQ.mono (show LimQ 0 1 from ⟨by decide, by decide⟩) (by decide)
  | k + 1, h1, h2, h3 => by
    have h := limQ_partC hg hv k (by omega) (by omega) (by omega)
    have hd : LimQ (pQ (gs.getD k (0, 0)) - pQ (gs.getD (k + 1) (0, 0))) 7 := LimQ.sub (limQ_num (hg k (by omega))) (limQ_num (hg (k + 1) h1))
    have hm := LimQ.mul hd ((limQ_knot (hv k (by omega))).mono (by omega : 6 ≤ 7))
    have hp : 1 ≤ 2 ^ k := Nat.one_le_two_pow
    refine (LimQ.add h (hm.mono (by omega : 2 * 7 ≤ 16 * 2 ^ k - 1))).mono ?_
    rw [Nat.pow_succ]
    omega

theorem gb_set4 (w : World) (b : Nat) (v0 v1 v2 v3 : Value) : w.grownBy ((((w.setCell ⟨b, 0, none⟩ v0).setCell ⟨b, 1, none⟩ v1).setCell ⟨b, 2, none⟩ v2).setCell ⟨b, 3, none⟩ v3) (some b) :=
  gb_trans (gb_trans (gb_trans (gb_set _ _ _ _) (gb_set _ _ _ _)) (gb_set _ _ _ _)) (gb_set _ _ _ _)
def partV (kind : Int) (gs vs : List (Int × Int)) (k : Nat) : Rat := if kind = 100 then partC gs vs k else 0

set_option maxRecDepth 100000 in
set_option maxHeartbeats 40000000 in
theorem Part_err (w : World) (nm : ByteArray) (kind : Int) (vg vv : Value) (gs vs : List (Int × Int)) (k : Int) (hk1 : 0 ≤ kind) (hk2 : kind ≤ 255) (hg : NumRow w vg gs) (hv : NumRow w vv vs)
    (hE : segE (modelOK nm.data.toList kind gs vs) k gs.length ≠ 0) :
    Calls Tryz.prog 162 #[.agg #[.string nm, .int .u8 kind, vg, vv], .int .i64 k] w fun e w' => e = .returned (.tuple #[.agg #[.bool false, .slice none 0 0, .bool false, .slice none 0 0], .agg #[.bool false, .slice none 0 0, .bool false, .slice none 0 0], .int .i64 (segE (modelOK nm.data.toList kind gs vs) k gs.length)]) ∧ w.grownBy w' none := by
  have hg' := hg
  have hv' := hv
  obtain ⟨A1, c1, rfl, a1, a2, _, _⟩ := hg
  obtain ⟨A2, c2, rfl, b1, b2, _, _⟩ := hv
  have ga := gb_alloc w (.cells #[.string nm, .int .u8 kind, .slice A1 gs.length c1, .slice A2 vs.length c2] 87) none
  have hB := Blk.new w #[.string nm, .int .u8 kind, .slice A1 gs.length c1, .slice A2 vs.length c2] 87
  have hZ1 := Blk.new (w.alloc (.cells #[.string nm, .int .u8 kind, .slice A1 gs.length c1, .slice A2 vs.length c2] 87)) #[.bool false, .slice none 0 0, .bool false, .slice none 0 0] 94
  have g1 := gb_alloc (w.alloc (.cells #[.string nm, .int .u8 kind, .slice A1 gs.length c1, .slice A2 vs.length c2] 87)) (.cells #[.bool false, .slice none 0 0, .bool false, .slice none 0 0] 94) none
  have hZ2 := Blk.new ((w.alloc (.cells #[.string nm, .int .u8 kind, .slice A1 gs.length c1, .slice A2 vs.length c2] 87)).alloc (.cells #[.bool false, .slice none 0 0, .bool false, .slice none 0 0] 94)) #[.bool false, .slice none 0 0, .bool false, .slice none 0 0] 94
  have g2 := gb_alloc ((w.alloc (.cells #[.string nm, .int .u8 kind, .slice A1 gs.length c1, .slice A2 vs.length c2] 87)).alloc (.cells #[.bool false, .slice none 0 0, .bool false, .slice none 0 0] 94)) (.cells #[.bool false, .slice none 0 0, .bool false, .slice none 0 0] 94) none
  rw [World.size_alloc] at hZ1 hZ2
  rw [World.size_alloc] at hZ2
  have hZ1' := hZ1.more g2
  have gw := gb_trans ga (gb_trans g1 g2)
  obtain ⟨m0, m1, m2, m3, _⟩ := (hB.more (gb_trans g1 g2)).four
  have hgm := hg'.more gw
  have hvm := hv'.more gw
  generalize hE2 : segE (modelOK nm.data.toList kind gs vs) k gs.length = E at *
  have HE := Lib.hid hE2
  have tE : (E == 0) = false := by rw [beq_eq_false_iff_ne]; exact hE
  clear hE hE2 hZ1 hB ga g1 g2 hg' hv'
  go_enter Tryz.func162, Tryz.ntmps162
  go_wp2_with fail
  generalize ((w.alloc (.cells #[.string nm, .int .u8 kind, .slice A1 gs.length c1, .slice A2 vs.length c2] 87)).alloc (.cells #[.bool false, .slice none 0 0, .bool false, .slice none 0 0] 94)).alloc (.cells #[.bool false, .slice none 0 0, .bool false, .slice none 0 0] 94) = wa at *
  generalize hs : w.heap.size = s at *
  refine (check_calls wa nm kind _ _ gs vs k hk1 hk2 hgm hvm).mono ?_
  rintro o w1 ⟨rfl, hg1⟩
  rw [HE.out]
  obtain ⟨y0, y1, y2, y3, f0, f1, f2, f3⟩ := (hZ1'.more hg1).four
  obtain ⟨z0, z1, z2, z3, h0, h1, h2, h3⟩ := (hZ2.more hg1).four
  go_wp2
  try simp only [Exit.inBlock, Exit.then]
  refine bodyPost_ret (v := .tuple #[.agg #[.bool false, .slice none 0 0, .bool false, .slice none 0 0], .agg #[.bool false, .slice none 0 0, .bool false, .slice none 0 0], .int .i64 E]) (by simp [results, Tryz.results162, go_sem, y0, y1, y2, y3, z0, z1, z2, z3]) rfl ⟨rfl, gb_new (gb_new (gb_trans gw hg1) (gb_set4 w1 (s + 1) _ _ _ _) (by omega)) (gb_set4 _ (s + 1 + 1) _ _ _ _) (by omega)⟩

end Go.Proofs.YtmfmfpmkgmkgiaaGreatDoor

namespace Go.Proofs.YtmfmfpmkgmkgiaaGreatDoor
open Go.RowKit
open Rat

theorem RatB.new' {w0 : World} {n : Nat} (h : w0.heap.size = n) (T : TypeId) : RatB (w0.alloc (.cells #[.bool false, .slice none 0 0, .bool false, .slice none 0 0] T)) n 0 := by subst h; exact RatB.new _ _
theorem NumRow.at {w : World} {A : Option Addr} {n c : Nat} {l : List (Int × Int)} (h : NumRow w (.slice A n c) l) {i : Nat} (hi : i < l.length) :
    ∃ b o, A = some ⟨b, o, none⟩ ∧ w.cell? ⟨b, o + i * 2, none⟩ = some (.int .i64 (l.getD i (0, 0)).1) ∧ w.cell? ⟨b, o + i * 2 + 1, none⟩ = some (.int .i64 (l.getD i (0, 0)).2) := by
  obtain ⟨A0, c0, he, _, _, _, h5⟩ := h
  injection he with e1
  subst e1
  obtain ⟨b, o, rfl, hc⟩ := h5 (by omega)
  exact ⟨b, o, rfl, hc i hi⟩
theorem modelOK_all {nm : List UInt8} {kind : Int} {gs vs : List (Int × Int)} (h : modelOK nm kind gs vs = true) :
    nameOK nm = true ∧ gs.all numOK = true ∧ vs.all numOK = true ∧ ((kind = 115 ∧ gs.length = 2 ∧ vs.length = 1) ∨ (kind = 100 ∧ 1 ≤ gs.length ∧ gs.length ≤ 4 ∧ vs.length + 1 = gs.length)) := by
  unfold modelOK at h
  simp only [Bool.and_eq_true] at h
  obtain ⟨⟨⟨h1, h2⟩, h3⟩, h4⟩ := h
  refine ⟨h1, h2, h3, ?_⟩
  by_cases hk : kind = 115
  · rw [if_pos hk] at h4
    simp only [Bool.and_eq_true, decide_eq_true_eq] at h4
    exact .inl ⟨hk, h4⟩
  · rw [if_neg hk] at h4
    by_cases hk2 : kind = 100
    · rw [if_pos hk2] at h4
      simp only [Bool.and_eq_true, decide_eq_true_eq] at h4
      exact .inr ⟨hk2, h4.1.1.1, h4.1.1.2, h4.1.2⟩
    · rw [if_neg hk2] at h4
      cases h4

theorem ratV_of {W : World} {b : Bool} {v1 v2 : Value} {q P : Rat} (hp : q = P) (hb : decide (q.num < 0) = b) (h1 : Nums W v1 (digs q.num)) (h2 : Nums W v2 (digs (q.den : Int))) : RatV W (.agg #[.bool b, v1, .bool false, v2]) P := by
  subst hp hb
  exact ⟨_, _, rfl, h1, h2⟩
theorem set8 (w : World) (b c : Nat) (hbc : b ≠ c) (x0 x1 x2 x3 y0 y1 y2 y3 : Value) {o0 o1 o2 o3 q0 q1 q2 q3 : Value} (hb : Blk w b #[o0, o1, o2, o3]) (hc : Blk w c #[q0, q1, q2, q3]) :
    ∃ W, ((((((((w.setCell ⟨b, 0, none⟩ x0).setCell ⟨b, 1, none⟩ x1).setCell ⟨b, 2, none⟩ x2).setCell ⟨b, 3, none⟩ x3).setCell ⟨c, 0, none⟩ y0).setCell ⟨c, 1, none⟩ y1).setCell ⟨c, 2, none⟩ y2).setCell ⟨c, 3, none⟩ y3) = W ∧ Blk W b #[x0, x1, x2, x3] ∧ Blk W c #[y0, y1, y2, y3] ∧
      (∀ v xs, Nums w v xs → v.ownBlock ≠ some b → v.ownBlock ≠ some c → Nums W v xs) ∧ (∀ w1 : World, w1.grownBy w none → w1.heap.size ≤ b → w1.heap.size ≤ c → w1.grownBy W none) := by
  have g1 := gb_set4 w b x0 x1 x2 x3
  have h1 := (((hb.set 0 x0).set 1 x1).set 2 x2).set 3 x3
  have c1 := hc.other g1 (fun e => hbc e.symm)
  generalize (((w.setCell ⟨b, 0, none⟩ x0).setCell ⟨b, 1, none⟩ x1).setCell ⟨b, 2, none⟩ x2).setCell ⟨b, 3, none⟩ x3 = w2 at *
  have g2 := gb_set4 w2 c y0 y1 y2 y3
  have h2 := (((c1.set 0 y0).set 1 y1).set 2 y2).set 3 y3
  have h3 := h1.other g2 hbc
  exact ⟨_, rfl, h3, h2, fun v xs hn n1 n2 => (hn.apart g1 n1).apart g2 n2, fun w1 hg l1 l2 => gb_new (gb_new hg g1 l1) g2 l2⟩
set_option maxRecDepth 100000 in
set_option maxHeartbeats 40000000 in
theorem Part_ok (w : World) (nm : ByteArray) (kind : Int) (vg vv : Value) (gs vs : List (Int × Int)) (k : Nat) (hg : NumRow w vg gs) (hv : NumRow w vv vs)
    (hok : modelOK nm.data.toList kind gs vs = true) (hk : k < gs.length) :
    Calls Tryz.prog 162 #[.agg #[.string nm, .int .u8 kind, vg, vv], .int .i64 k] w fun e w' => ∃ v1 v2, e = .returned (.tuple #[v1, v2, .int .i64 0]) ∧ RatV w' v1 (pQ (gs.getD k (0, 0))) ∧ RatV w' v2 (partV kind gs vs k) ∧ w.grownBy w' none := by
  obtain ⟨P0, hP0, hP1⟩ : ∃ P, numQ (gs.getD k (0, 0)).1 (gs.getD k (0, 0)).2 = P ∧ pQ (gs.getD k (0, 0)) = P := ⟨_, rfl, rfl⟩
  rw [hP1]
  have HP0 := Lib.hid hP0
  clear hP0 hP1
  have hg' := hg
  have hv' := hv
  obtain ⟨A1, c1, rfl, a1, a2, _, a4⟩ := hg
  obtain ⟨A2, c2, rfl, b1, b2, _, _⟩ := hv
  obtain ⟨_, hag, hav, hkind⟩ := modelOK_all hok
  have hE : segE (modelOK nm.data.toList kind gs vs) k gs.length = 0 := by unfold segE; rw [hok, if_pos rfl, if_neg (by omega)]
  have HE := Lib.hid hE
  have HAG := Lib.hid (fun j hj => all_numOK hag j hj)
  have HAV := Lib.hid (fun j hj => all_numOK hav j hj)
  have hk1 : 0 ≤ kind := by omega
  have hk2 : kind ≤ 255 := by omega
  have HKD := Lib.hid hkind
  clear hok hE hag hav hkind
  have ga := gb_alloc w (.cells #[.string nm, .int .u8 kind, .slice A1 gs.length c1, .slice A2 vs.length c2] 87) none
  have hB := Blk.new w #[.string nm, .int .u8 kind, .slice A1 gs.length c1, .slice A2 vs.length c2] 87
  have hZ1 := Blk.new (w.alloc (.cells #[.string nm, .int .u8 kind, .slice A1 gs.length c1, .slice A2 vs.length c2] 87)) #[.bool false, .slice none 0 0, .bool false, .slice none 0 0] 94
  have g1 := gb_alloc (w.alloc (.cells #[.string nm, .int .u8 kind, .slice A1 gs.length c1, .slice A2 vs.length c2] 87)) (.cells #[.bool false, .slice none 0 0, .bool false, .slice none 0 0] 94) none
  have hZ2 := Blk.new ((w.alloc (.cells #[.string nm, .int .u8 kind, .slice A1 gs.length c1, .slice A2 vs.length c2] 87)).alloc (.cells #[.bool false, .slice none 0 0, .bool false, .slice none 0 0] 94)) #[.bool false, .slice none 0 0, .bool false, .slice none 0 0] 94
  have g2 := gb_alloc ((w.alloc (.cells #[.string nm, .int .u8 kind, .slice A1 gs.length c1, .slice A2 vs.length c2] 87)).alloc (.cells #[.bool false, .slice none 0 0, .bool false, .slice none 0 0] 94)) (.cells #[.bool false, .slice none 0 0, .bool false, .slice none 0 0] 94) none
  rw [World.size_alloc] at hZ1 hZ2
  rw [World.size_alloc] at hZ2
  have hZ1' := hZ1.more g2
  have gw := gb_trans ga (gb_trans g1 g2)
  have hB' := hB.more (gb_trans g1 g2)
  obtain ⟨m0, m1, m2, m3, _⟩ := hB'.four
  have hgm := hg'.more gw
  have hvm := hv'.more gw
  clear hZ1 hB ga g1 g2 hg' hv'
  go_enter Tryz.func162, Tryz.ntmps162
  go_wp2_with fail
  generalize ((w.alloc (.cells #[.string nm, .int .u8 kind, .slice A1 gs.length c1, .slice A2 vs.length c2] 87)).alloc (.cells #[.bool false, .slice none 0 0, .bool false, .slice none 0 0] 94)).alloc (.cells #[.bool false, .slice none 0 0, .bool false, .slice none 0 0] 94) = wa at *
  generalize hs : w.heap.size = s at *
  refine (check_calls wa nm kind _ _ gs vs k hk1 hk2 hgm hvm).mono ?_
  rintro o w1 ⟨rfl, hg1⟩
  rw [HE.out]
  have B1 := hB'.more hg1
  have Z1 := hZ1'.more hg1
  have Z2 := hZ2.more hg1
  have hgm1 := hgm.more hg1
  have hvm1 := hvm.more hg1
  clear hB' hZ1' hZ2 hgm hvm m0 m1 m2 m3
  go_wp2
  have hcn := RatB.new w1 178
  have gcn := gb_alloc w1 (.cells #[.bool false, .slice none 0 0, .bool false, .slice none 0 0] 178) none
  generalize hcb : w1.heap.size = cb at *
  generalize w1.alloc (.cells #[.bool false, .slice none 0 0, .bool false, .slice none 0 0] 178) = wl at *
  go_loopw [9] (fun j wr => ∃ i : Nat, (kind = 100 ∨ i = 0) ∧ i ≤ k ∧ j = .int .i64 (i : Int) ∧ RatB wr cb (partC gs vs i) ∧ w1.grownBy wr none) (fun j _ => (k - intOf j).toNat)
  case atStart => exact ⟨0, .inr rfl, by omega, rfl, hcn, gcn⟩
  case round =>
    obtain ⟨i, hki, hik, rfl, hc, hgr⟩ := hrel
    have hclt := hc.lt
    obtain ⟨m0, m1, m2, m3, _⟩ := (B1.more hgr).four
    by_cases hrun : kind = 100 ∧ i < k
    · obtain ⟨rfl, hik2⟩ := hrun
      have hki : vs.length + 1 = gs.length ∧ gs.length ≤ 4 := by have := HKD.out; omega
      have okg1 := HAG.out i (by omega)
      have okg2 := HAG.out (i + 1) (by omega)
      have okv := HAV.out i (by omega)
      have hgr4 := hgm1.more hgr
      have hvr4 := hvm1.more hgr
      have hlc := limQ_partC HAG.out HAV.out i (by omega) (by omega) (by omega)
      have hpw : 2 ^ i ≤ 2 ^ 3 := Nat.pow_le_pow_right (by omega) (by omega)
      have hlk := limQ_knot okv
      have hsum : Hid (partC gs vs (i + 1) = partC gs vs i + (pQ (gs.getD i (0, 0)) - pQ (gs.getD (i + 1) (0, 0))) * (pQ (vs.getD i (0, 0)) * ((1000000000 : Int) /. 1))) := Lib.hid rfl
      obtain ⟨b, o, rfl, hcc⟩ := a4 (by omega)
      have hgr4' := hgr4
      obtain ⟨A', c', he, _, _, _, h4'⟩ := hgr4'
      obtain ⟨b', o', hb', hcc'⟩ := h4' (by omega)
      injection he with he1 he2 he3
      subst he1
      injection hb' with hb'
      injection hb' with hb1 hb2
      subst hb1 hb2
      obtain ⟨q0, q1⟩ := hcc' i (by omega)
      obtain ⟨q2, q3⟩ := hcc' (i + 1) (by omega)
      clear hcc hcc' h4' he3
      have e1 : (i : Int) + 1 < (gs.length : Int) := by omega
      have e2 : (i : Int) < (gs.length : Int) := by omega
      have e3 : ((i : Int) + 1).toNat = i + 1 := by omega
      have e4 : (0 : Int) ≤ (i : Int) + 1 := by omega
      have e5 : IntKind.i64.wrap ((i : Int) + 1) = (i : Int) + 1 := IntWalk.i64_in _ (by omega)
      have ev : i < vs.length := by omega
      have hl1 : LimQ (pQ (gs.getD i (0, 0))) 3 := limQ_num okg1
      have hl2 : LimQ (pQ (gs.getD (i + 1) (0, 0))) 3 := limQ_num okg2
      have hld : LimQ (pQ (gs.getD i (0, 0)) - pQ (gs.getD (i + 1) (0, 0))) 7 := LimQ.sub hl1 hl2
      have hlm := LimQ.mul hld (hlk.mono (by omega : 6 ≤ 7))
      have hgrB := Lib.hid hgr4
      have hvrB := Lib.hid hvr4
      have hokv := Lib.hid okv
      have HLC := Lib.hid (hlc.mono (show 16 * 2 ^ i - 1 ≤ 200 by omega))
      have HLD := Lib.hid (hld.mono (show 7 ≤ 200 by omega))
      have HLK := Lib.hid (hlk.mono (show 6 ≤ 200 by omega))
      have HLM := Lib.hid (hlm.mono (show 2 * 7 ≤ 200 by omega))
      generalize hp : gs.getD i (0, 0) = p at *
      generalize hq : gs.getD (i + 1) (0, 0) = q at *
      obtain ⟨x1, y1⟩ := p
      obtain ⟨x2, y2⟩ := q
      simp only at q0 q1 q2 q3 okg1 okg2
      have OK1 := Lib.hid okg1
      have OK2 := Lib.hid okg2
      have HL1 := Lib.hid hl1
      have HL2 := Lib.hid hl2
      clear hp hq okg1 okg2 okv hgr4 hvr4 hlc hld hlk hlm hl1 hl2 hpw
      have K : ∀ w', wr.grownBy w' none → w'.cell? ⟨s, 2, none⟩ = some (.slice (some ⟨b, o, none⟩) gs.length c1) ∧ w'.cell? ⟨b, o + i * 2, none⟩ = some (.int .i64 x1) ∧ w'.cell? ⟨b, o + i * 2 + 1, none⟩ = some (.int .i64 y1) ∧ w'.cell? ⟨b, o + (i + 1) * 2, none⟩ = some (.int .i64 x2) ∧ w'.cell? ⟨b, o + (i + 1) * 2 + 1, none⟩ = some (.int .i64 y2) := fun w' h => ⟨gb_cell h m2 (by simp), gb_cell h q0 (by simp), gb_cell h q1 (by simp), gb_cell h q2 (by simp), gb_cell h q3 (by simp)⟩
      have HK := Lib.hid K
      clear K
      go_upto_region 8 with (fail)
      go_cut [10] (fun d wx => ∃ db, d = .pointer (some ⟨db, 0, none⟩) ∧ wr.heap.size ≤ db ∧ wr.grownBy wx none ∧ Hid (RatB wx db (pQ (x1, y1) - pQ (x2, y2))))
      case first =>
       as_aux_lemma =>
        go_region_held3 (fun w' => w'.cell? ⟨s, 2, none⟩ = some (.slice (some ⟨b, o, none⟩) gs.length c1) ∧ w'.cell? ⟨b, o + i * 2, none⟩ = some (.int .i64 x1) ∧ w'.cell? ⟨b, o + i * 2 + 1, none⟩ = some (.int .i64 y1) ∧ w'.cell? ⟨b, o + (i + 1) * 2, none⟩ = some (.int .i64 x2) ∧ w'.cell? ⟨b, o + (i + 1) * 2 + 1, none⟩ = some (.int .i64 y2)) ((refine HK.out _ ?_; (focus ((repeat (first | assumption | exact gb_refl _ _ | exact gb_drew _ _ | exact gb_alloc _ _ _ | refine gb_trans ?_ (gb_alloc _ _ _) | refine gb_trans ?_ (gb_drew _ _) | refine gb_trans ?_ (by assumption))); done))))
         (first
         | (go_at_call_of 208 (Value.agg #[.int .i64 x1, .int .i64 y1]); refine (mvalue_calls _ x1 y1 OK1.out).mono ?_; rintro o' w2 ⟨bb2, rfl, hi2, hb2, hg2⟩)
         | (go_at_call 208; refine (mvalue_calls _ x2 y2 OK2.out).mono ?_; rintro o' w3 ⟨bb3, rfl, hi3, hb3, hg3⟩)
         | (go_at_call 207; refine (RSub_calls _ _ bb2 bb3 0 _ _ (by first | exact (RatB.new' (w0 := wr.drew) rfl _).more (by (focus ((repeat (first | assumption | exact gb_refl _ _ | exact gb_drew _ _ | exact gb_alloc _ _ _ | refine gb_trans ?_ (gb_alloc _ _ _) | refine gb_trans ?_ (gb_drew _ _) | refine gb_trans ?_ (by assumption))); done))) | exact (RatB.new' (w0 := w2) rfl _).more (by (focus ((repeat (first | assumption | exact gb_refl _ _ | exact gb_drew _ _ | exact gb_alloc _ _ _ | refine gb_trans ?_ (gb_alloc _ _ _) | refine gb_trans ?_ (gb_drew _ _) | refine gb_trans ?_ (by assumption))); done))) | exact (RatB.new' (w0 := w3) rfl _).more (by (focus ((repeat (first | assumption | exact gb_refl _ _ | exact gb_drew _ _ | exact gb_alloc _ _ _ | refine gb_trans ?_ (gb_alloc _ _ _) | refine gb_trans ?_ (gb_drew _ _) | refine gb_trans ?_ (by assumption))); done)))) (hi2.more (by (focus ((repeat (first | assumption | exact gb_refl _ _ | exact gb_drew _ _ | exact gb_alloc _ _ _ | refine gb_trans ?_ (gb_alloc _ _ _) | refine gb_trans ?_ (gb_drew _ _) | refine gb_trans ?_ (by assumption))); done)))) (hi3.more (by (focus ((repeat (first | assumption | exact gb_refl _ _ | exact gb_drew _ _ | exact gb_alloc _ _ _ | refine gb_trans ?_ (gb_alloc _ _ _) | refine gb_trans ?_ (gb_drew _ _) | refine gb_trans ?_ (by assumption))); done)))) 3 (by omega) HL1.out HL2.out).mono ?_; rintro o' w4 ⟨rfl, hi4, hg4⟩; have g4 := gb_new (show wr.grownBy _ none by (focus ((repeat (first | assumption | exact gb_refl _ _ | exact gb_drew _ _ | exact gb_alloc _ _ _ | refine gb_trans ?_ (gb_alloc _ _ _) | refine gb_trans ?_ (gb_drew _ _) | refine gb_trans ?_ (by assumption))); done))) hg4 (by first | exact Nat.le_refl _ | exact (show wr.grownBy w2 none by (focus ((repeat (first | assumption | exact gb_refl _ _ | exact gb_drew _ _ | exact gb_alloc _ _ _ | refine gb_trans ?_ (gb_alloc _ _ _) | refine gb_trans ?_ (gb_drew _ _) | refine gb_trans ?_ (by assumption))); done))).size | exact (show wr.grownBy w3 none by (focus ((repeat (first | assumption | exact gb_refl _ _ | exact gb_drew _ _ | exact gb_alloc _ _ _ | refine gb_trans ?_ (gb_alloc _ _ _) | refine gb_trans ?_ (gb_drew _ _) | refine gb_trans ?_ (by assumption))); done))).size)))
        all_goals
          go_wp2_with fail
          go_meet
          exact ⟨_, rfl, by first | exact Nat.le_refl _ | exact (show wr.grownBy w2 none by (focus ((repeat (first | assumption | exact gb_refl _ _ | exact gb_drew _ _ | exact gb_alloc _ _ _ | refine gb_trans ?_ (gb_alloc _ _ _) | refine gb_trans ?_ (gb_drew _ _) | refine gb_trans ?_ (by assumption))); done))).size | exact (show wr.grownBy w3 none by (focus ((repeat (first | assumption | exact gb_refl _ _ | exact gb_drew _ _ | exact gb_alloc _ _ _ | refine gb_trans ?_ (gb_alloc _ _ _) | refine gb_trans ?_ (gb_drew _ _) | refine gb_trans ?_ (by assumption))); done))).size, g4, Lib.hid hi4⟩
      case rest =>
       as_aux_lemma =>
        obtain ⟨db, rfl, hdb, hgd, hd⟩ := hcut
        obtain ⟨m0, m1, m2, m3, _⟩ := (B1.more (gb_trans hgr hgd)).four
        have HGR := Lib.hid hgr
        have HGD := Lib.hid hgd
        have HC := Lib.hid hc
        have hk5 := knot_calls wc nm 100 _ _ gs vs i (hgrB.out.more hgd) (hvrB.out.more hgd) ev hokv.out
        have HK5 := Lib.hid hk5
        clear hk5 hgr hgd hc q0 q1 q2 q3
        go_wp2_with fail
        refine HK5.out.mono ?_
        rintro o1 w5 ⟨kb, rfl, hkb, hkbb, hg5⟩
        have HG5 := Lib.hid hg5
        have HKB := Lib.hid hkb
        have HD5 := Lib.hid (hd.out.more hg5)
        clear hg5 hkb hkbb HK5 hd
        clear m0 m1 m2 m3
        go_wp2_with fail
        refine (RMul_calls w5 db db kb _ _ _ HD5.out HD5.out HKB.out 200 (by omega) HLD.out HLK.out).mono ?_
        rintro o2 w6 ⟨rfl, hm6, hg6⟩
        have HM6 := Lib.hid hm6
        have hne : cb ≠ db := by have := HC.out.lt; omega
        have HC6 := Lib.hid ((HC.out.more (gb_trans HGD.out HG5.out)).other hg6 HD5.out.plain hne)
        have HG6 := Lib.hid (gb_new (gb_trans HGD.out HG5.out) hg6 hdb)
        clear hm6 hg6 hne
        go_wp2_with fail
        refine (RAdd_calls w6 cb cb db _ _ _ HC6.out HC6.out HM6.out 200 (by omega) HLC.out HLM.out).mono ?_
        rintro o3 w7 ⟨rfl, hc7, hg7⟩
        have HC7 := Lib.hid hc7
        have HG7 := Lib.hid (gb_new (gb_trans HGR.out HG6.out) hg7 (by omega))
        clear hc7 hg7
        go_wp2_with fail
        exact ⟨⟨i + 1, by simp, by omega, by go_num, by rw [hsum.out]; exact HC7.out, HG7.out⟩, by simp [intOf]; omega⟩
    · skip
      have HV : Hid (partC gs vs i = partV kind gs vs k) := Lib.hid (by
        unfold partV
        by_cases h100 : kind = 100
        · rw [if_pos h100, show i = k by omega]
        · rw [if_neg h100]
          obtain rfl : i = 0 := by rcases hki with h | h; exact absurd h h100; exact h
          rfl)
      obtain ⟨bG, oG, rfl, x0, x1⟩ := (hgm1.more hgr).at hk
      have okg := HAG.out k hk
      have HLQ : Hid (LimQ (partC gs vs i) 1099511627776) := Lib.hid (by
        by_cases h100 : kind = 100
        · have := HKD.out
          exact (limQ_partC HAG.out HAV.out i (by omega) (by omega) (by omega)).mono (by have : 2 ^ i ≤ 2 ^ 3 := Nat.pow_le_pow_right (by omega) (by omega)
                                                                                         omega)
        · obtain rfl : i = 0 := by rcases hki with h | h; exact absurd h h100; exact h
          exact LimQ.mono (show LimQ 0 1 from ⟨by decide, by decide⟩) (by decide))
      generalize gs.getD k (0, 0) = p at *
      obtain ⟨px, py⟩ := p
      have HP0 : Hid (numQ px py = P0) := HP0
      simp only at x0 x1 okg
      have HOK := Lib.hid okg
      have HC := Lib.hid hc
      have HGR := Lib.hid hgr
      have e1 : (k : Int) < (gs.length : Int) := by omega
      have tt : ((i : Int) < (k : Int) ∧ (kind == 100) = false) ∨ ¬ (i : Int) < (k : Int) := by
        by_cases h : i < k
        · exact .inl ⟨by omega, by rw [beq_eq_false_iff_ne]; omega⟩
        · exact .inr (by omega)
      clear hc okg hgr hrun hki hcn gcn
      rcases tt with ⟨t1, t2⟩ | t1
      · skip
        go_wp2_with fail
        refine (mvalue_calls wr px py HOK.out).mono ?_
        rintro o2 w2 ⟨vb, rfl, hvb, hvbb, hg2⟩
        have HVB := Lib.hid hvb
        have HG2 := Lib.hid hg2
        clear hvb hvbb hg2
        go_wp2_with fail
        refine (WFrac_calls w2 vb _ HVB.out ((limQ_num HOK.out).mono (by omega))).mono ?_
        rintro o3 w3 ⟨u1, u2, rfl, hn1, hn2, hf1, hf2, hg3⟩
        obtain ⟨neg1, hng1⟩ : ∃ b, decide ((numQ px py).num < 0) = b := ⟨_, rfl⟩
        rw [hng1]
        have HNG1 := Lib.hid hng1
        clear hng1
        obtain ⟨U1, k1, d1, rfl⟩ := hn1.ctor
        obtain ⟨U2, k2, d2, rfl⟩ := hn2.ctor
        have HN1 := Lib.hid hn1
        have HN2 := Lib.hid hn2
        have HF1 := Lib.hid (hf1.mono (gb_trans HGR.out HG2.out).size)
        have HF2 := Lib.hid (hf2.mono (gb_trans HGR.out HG2.out).size)
        have HG3 := Lib.hid (gb_trans HG2.out hg3)
        clear hn1 hn2 hf1 hf2 hg3
        go_wp2_with fail
        refine (WFrac_calls w3 cb _ (HC.out.more HG3.out) HLQ.out).mono ?_
        rintro o4 w4 ⟨u3, u4, rfl, hn3, hn4, hf3, hf4, hg4⟩
        obtain ⟨neg2, hng2⟩ : ∃ b, decide ((partC gs vs i).num < 0) = b := ⟨_, rfl⟩
        rw [hng2]
        have HNG2 := Lib.hid hng2
        clear hng2
        obtain ⟨U3, k3, d3, rfl⟩ := hn3.ctor
        obtain ⟨U4, k4, d4, rfl⟩ := hn4.ctor
        have HN1 := Lib.hid (HN1.out.more hg4)
        have HN2 := Lib.hid (HN2.out.more hg4)
        have HN3 := Lib.hid hn3
        have HN4 := Lib.hid hn4
        have HF3 := Lib.hid (hf3.mono (gb_trans HGR.out HG3.out).size)
        have HF4 := Lib.hid (hf4.mono (gb_trans HGR.out HG3.out).size)
        have hg4' := gb_trans HGR.out (gb_trans HG3.out hg4)
        have HG4 := Lib.hid hg4'
        obtain ⟨z0, z1, z2, z3, f0, f1, f2, f3⟩ := (Z1.more hg4').four
        obtain ⟨y0, y1, y2, y3, l0, l1, l2, l3⟩ := (Z2.more hg4').four
        clear hn3 hn4 hf3 hf4 hg4 hg4'
        have hz2 := lt_of_cell (Z2.cell 0)
        have hne : ∀ {v : Value}, From w1.heap.size v → v.ownBlock ≠ some (s + 1) ∧ v.ownBlock ≠ some (s + 1 + 1) := fun h => ⟨fun e => by have := h _ e; omega, fun e => by have := h _ e; omega⟩
        have HNE := Lib.hid (And.intro (hne HF1.out) (And.intro (hne HF2.out) (And.intro (hne HF3.out) (hne HF4.out))))
        have hS := set8 w4 (s + 1) (s + 1 + 1) (by omega) (.bool neg1) (.slice U1 k1 d1) (.bool false) (.slice U2 k2 d2) (.bool neg2) (.slice U3 k3 d3) (.bool false) (.slice U4 k4 d4) (Z1.more HG4.out) (Z2.more HG4.out)
        have HSS := Lib.hid hS
        clear hne hz2 hS
        go_wp2
        try simp only [Exit.inBlock, Exit.then]
        obtain ⟨W, hW, B5, B6, hnum, hgrn⟩ := HSS.out
        rw [hW]
        obtain ⟨n1, n2, n3, n4⟩ := HNE.out
        clear hW z0 z1 z2 z3 y0 y1 y2 y3 f0 f1 f2 f3 l0 l1 l2 l3
        obtain ⟨z0, z1, z2, z3, _⟩ := B5.four
        obtain ⟨y0, y1, y2, y3, _⟩ := B6.four
        refine bodyPost_ret (v := .tuple #[.agg #[.bool neg1, .slice U1 k1 d1, .bool false, .slice U2 k2 d2], .agg #[.bool neg2, .slice U3 k3 d3, .bool false, .slice U4 k4 d4], .int .i64 0]) (by simp [results, Tryz.results162, go_sem, z0, z1, z2, z3, y0, y1, y2, y3]) rfl ⟨_, _, rfl, ?_, ?_, ?_⟩
        · have h := hnum _ _ HN1.out n1.1 n1.2
          have h2 := hnum _ _ HN2.out n2.1 n2.2
          have h3 := ratV_of (W := W) rfl HNG1.out h h2
          rw [HP0.out] at h3
          exact h3
        · exact ratV_of HV.out HNG2.out (hnum _ _ HN3.out n3.1 n3.2) (hnum _ _ HN4.out n4.1 n4.2)
        · exact hgrn _ (gb_trans gw (gb_trans hg1 HG4.out)) (by omega) (by omega)
      · skip
        go_wp2_with fail
        refine (mvalue_calls wr px py HOK.out).mono ?_
        rintro o2 w2 ⟨vb, rfl, hvb, hvbb, hg2⟩
        have HVB := Lib.hid hvb
        have HG2 := Lib.hid hg2
        clear hvb hvbb hg2
        go_wp2_with fail
        refine (WFrac_calls w2 vb _ HVB.out ((limQ_num HOK.out).mono (by omega))).mono ?_
        rintro o3 w3 ⟨u1, u2, rfl, hn1, hn2, hf1, hf2, hg3⟩
        obtain ⟨neg1, hng1⟩ : ∃ b, decide ((numQ px py).num < 0) = b := ⟨_, rfl⟩
        rw [hng1]
        have HNG1 := Lib.hid hng1
        clear hng1
        obtain ⟨U1, k1, d1, rfl⟩ := hn1.ctor
        obtain ⟨U2, k2, d2, rfl⟩ := hn2.ctor
        have HN1 := Lib.hid hn1
        have HN2 := Lib.hid hn2
        have HF1 := Lib.hid (hf1.mono (gb_trans HGR.out HG2.out).size)
        have HF2 := Lib.hid (hf2.mono (gb_trans HGR.out HG2.out).size)
        have HG3 := Lib.hid (gb_trans HG2.out hg3)
        clear hn1 hn2 hf1 hf2 hg3
        go_wp2_with fail
        refine (WFrac_calls w3 cb _ (HC.out.more HG3.out) HLQ.out).mono ?_
        rintro o4 w4 ⟨u3, u4, rfl, hn3, hn4, hf3, hf4, hg4⟩
        obtain ⟨neg2, hng2⟩ : ∃ b, decide ((partC gs vs i).num < 0) = b := ⟨_, rfl⟩
        rw [hng2]
        have HNG2 := Lib.hid hng2
        clear hng2
        obtain ⟨U3, k3, d3, rfl⟩ := hn3.ctor
        obtain ⟨U4, k4, d4, rfl⟩ := hn4.ctor
        have HN1 := Lib.hid (HN1.out.more hg4)
        have HN2 := Lib.hid (HN2.out.more hg4)
        have HN3 := Lib.hid hn3
        have HN4 := Lib.hid hn4
        have HF3 := Lib.hid (hf3.mono (gb_trans HGR.out HG3.out).size)
        have HF4 := Lib.hid (hf4.mono (gb_trans HGR.out HG3.out).size)
        have hg4' := gb_trans HGR.out (gb_trans HG3.out hg4)
        have HG4 := Lib.hid hg4'
        obtain ⟨z0, z1, z2, z3, f0, f1, f2, f3⟩ := (Z1.more hg4').four
        obtain ⟨y0, y1, y2, y3, l0, l1, l2, l3⟩ := (Z2.more hg4').four
        clear hn3 hn4 hf3 hf4 hg4 hg4'
        have hz2 := lt_of_cell (Z2.cell 0)
        have hne : ∀ {v : Value}, From w1.heap.size v → v.ownBlock ≠ some (s + 1) ∧ v.ownBlock ≠ some (s + 1 + 1) := fun h => ⟨fun e => by have := h _ e; omega, fun e => by have := h _ e; omega⟩
        have HNE := Lib.hid (And.intro (hne HF1.out) (And.intro (hne HF2.out) (And.intro (hne HF3.out) (hne HF4.out))))
        have hS := set8 w4 (s + 1) (s + 1 + 1) (by omega) (.bool neg1) (.slice U1 k1 d1) (.bool false) (.slice U2 k2 d2) (.bool neg2) (.slice U3 k3 d3) (.bool false) (.slice U4 k4 d4) (Z1.more HG4.out) (Z2.more HG4.out)
        have HSS := Lib.hid hS
        clear hne hz2 hS
        go_wp2
        try simp only [Exit.inBlock, Exit.then]
        obtain ⟨W, hW, B5, B6, hnum, hgrn⟩ := HSS.out
        rw [hW]
        obtain ⟨n1, n2, n3, n4⟩ := HNE.out
        clear hW z0 z1 z2 z3 y0 y1 y2 y3 f0 f1 f2 f3 l0 l1 l2 l3
        obtain ⟨z0, z1, z2, z3, _⟩ := B5.four
        obtain ⟨y0, y1, y2, y3, _⟩ := B6.four
        refine bodyPost_ret (v := .tuple #[.agg #[.bool neg1, .slice U1 k1 d1, .bool false, .slice U2 k2 d2], .agg #[.bool neg2, .slice U3 k3 d3, .bool false, .slice U4 k4 d4], .int .i64 0]) (by simp [results, Tryz.results162, go_sem, z0, z1, z2, z3, y0, y1, y2, y3]) rfl ⟨_, _, rfl, ?_, ?_, ?_⟩
        · have h := hnum _ _ HN1.out n1.1 n1.2
          have h2 := hnum _ _ HN2.out n2.1 n2.2
          have h3 := ratV_of (W := W) rfl HNG1.out h h2
          rw [HP0.out] at h3
          exact h3
        · exact ratV_of HV.out HNG2.out (hnum _ _ HN3.out n3.1 n3.2) (hnum _ _ HN4.out n4.1 n4.2)
        · exact hgrn _ (gb_trans gw (gb_trans hg1 HG4.out)) (by omega) (by omega)

end Go.Proofs.YtmfmfpmkgmkgiaaGreatDoor

namespace Go.Proofs.YtmfmfpmkgmkgiaaGreatDoor
open Go.RowKit Go.Maps
open Rat
def reactY (q : Rat) (method : Int) : Rat := if method = 2 then q * ((2 : Int) /. 1) else q
def reactL (cap : Bool) (a0 a1 j mode method : Int) (y : Rat) : List StampP :=
  outL a0 a1 j ++ ((if cap then [] else acrossL a0 a1 j) ++ (if mode = 1 then (if cap then put1 1 j j 1 else []) else
    if cap then put1 1 j j 1 ++ (put1 1 j a0 (-y) ++ (put1 1 j a1 y ++ (put1 2 j a0 (-y) ++ (put1 2 j a1 y ++ (if method = 2 then put1 2 j j (-1) else [])))))
    else put1 1 j j (-y) ++ (put1 2 j j (-y) ++ (if method = 2 then put1 2 j a0 (-1) ++ put1 2 j a1 1 else []))))
def stampsD (d : DevP) (br : List Int) (k mode method : Int) (step : Int × Int) (seg : Nat) : List StampP :=
  let J := br.getD k.toNat 0
  let X := numQ d.val.1 d.val.2
  if d.kind = 114 then conductL (d.at 0) (d.at 1) (d.at 0) (d.at 1) X⁻¹
  else if d.kind = 103 then conductL (d.at 0) (d.at 1) (d.at 2) (d.at 3) X
  else if d.kind = 118 then outL (d.at 0) (d.at 1) J ++ (acrossL (d.at 0) (d.at 1) J ++ put1 3 J k 1)
  else if d.kind = 105 then put1 3 (d.at 0) k (-1) ++ put1 3 (d.at 1) k 1
  else if d.kind = 101 then outL (d.at 0) (d.at 1) J ++ (acrossL (d.at 0) (d.at 1) J ++ lessL (d.at 2) (d.at 3) J X)
  else if d.kind = 102 then put1 1 (d.at 0) (br.getD d.ref.toNat 0) X ++ put1 1 (d.at 1) (br.getD d.ref.toNat 0) (-X)
  else if d.kind = 104 then outL (d.at 0) (d.at 1) J ++ (acrossL (d.at 0) (d.at 1) J ++ put1 1 J (br.getD d.ref.toNat 0) (-X))
  else if d.kind = 116 then outL (d.at 0) (d.at 1) J ++ (put1 1 (d.at 2) J (-X) ++ (put1 1 (d.at 3) J X ++ (acrossL (d.at 0) (d.at 1) J ++ lessL (d.at 2) (d.at 3) J X)))
  else if d.kind = 99 ∨ d.kind = 108 then reactL (decide (d.kind = 99)) (d.at 0) (d.at 1) J mode method (reactY (X / numQ step.1 step.2) method)
  else conductL (d.at 0) (d.at 1) (d.at 0) (d.at 1) (pQ (d.mg.getD seg (0, 0))) ++
    (if d.kind = 100 then put1 4 (d.at 0) 0 (-(partV d.mkind d.mg d.mv seg)) ++ put1 4 (d.at 1) 0 (partV d.mkind d.mg d.mv seg) else [])
def StG (n : Int) (K : Nat) (L : List StampP) : Prop := ∀ x ∈ L, (0 ≤ x.row ∧ x.row < n ∧ 0 ≤ x.col ∧ LimQ x.val K) ∧ ((x.kind = 1 ∧ x.col < n) ∨ (x.kind = 2 ∧ x.col < n) ∨ (x.kind = 3 ∧ x.col < 64) ∨ (x.kind = 4 ∧ x.col = 0))
theorem StG.nil (n : Int) (K : Nat) : StG n K [] := fun x hx => by simp at hx
theorem StG.append {n : Int} {K : Nat} {L M : List StampP} (h : StG n K L) (k : StG n K M) : StG n K (L ++ M) := fun x hx => by
  rcases List.mem_append.1 hx with hx | hx
  · exact h x hx
  · exact k x hx
theorem put1_g {n : Int} {K : Nat} {kind r c : Int} {q : Rat} (hr : r < n) (hc : (kind = 1 ∧ c < n) ∨ (kind = 2 ∧ c < n) ∨ (kind = 3 ∧ c < 64) ∨ (kind = 4 ∧ c = 0)) (hq : LimQ q K) : StG n K (put1 kind r c q) := fun x hx => by
  unfold put1 at hx
  split at hx
  · simp at hx
  · rename_i h
    rw [List.mem_singleton] at hx
    subst hx
    exact ⟨⟨by simp only; omega, hr, by simp only; omega, hq⟩, hc⟩
theorem conductL_g {n : Int} {K : Nat} {a0 a1 c dd : Int} {q : Rat} (h0 : a0 < n) (h1 : a1 < n) (hc : c < n) (hd : dd < n) (hq : LimQ q K) : StG n K (conductL a0 a1 c dd q) :=
  (put1_g h0 (.inl ⟨rfl, hc⟩) hq).append ((put1_g h0 (.inl ⟨rfl, hd⟩) hq.neg).append ((put1_g h1 (.inl ⟨rfl, hc⟩) hq.neg).append (put1_g h1 (.inl ⟨rfl, hd⟩) hq)))
theorem limQ_1 {K : Nat} (hK : 1 ≤ K) : LimQ 1 K := LimQ.mono (show LimQ 1 1 from ⟨by decide, by decide⟩) hK
theorem outL_g {n : Int} {K : Nat} {a0 a1 j : Int} (h0 : a0 < n) (h1 : a1 < n) (hj : j < n) (hK : 1 ≤ K) : StG n K (outL a0 a1 j) :=
  (put1_g h0 (.inl ⟨rfl, hj⟩) (limQ_1 hK)).append (put1_g h1 (.inl ⟨rfl, hj⟩) (limQ_1 hK).neg)
theorem acrossL_g {n : Int} {K : Nat} {a0 a1 j : Int} (h0 : a0 < n) (h1 : a1 < n) (hj : j < n) (hK : 1 ≤ K) : StG n K (acrossL a0 a1 j) :=
  (put1_g hj (.inl ⟨rfl, h0⟩) (limQ_1 hK)).append (put1_g hj (.inl ⟨rfl, h1⟩) (limQ_1 hK).neg)
theorem lessL_g {n : Int} {K : Nat} {a2 a3 j : Int} {q : Rat} (h2 : a2 < n) (h3 : a3 < n) (hj : j < n) (hq : LimQ q K) : StG n K (lessL a2 a3 j q) :=
  (put1_g hj (.inl ⟨rfl, h2⟩) hq.neg).append (put1_g hj (.inl ⟨rfl, h3⟩) hq)
theorem reactL_g {n : Int} {K : Nat} {cap : Bool} {a0 a1 j mode method : Int} {y : Rat} (h0 : a0 < n) (h1 : a1 < n) (hj : j < n) (hK : 1 ≤ K) (hy : mode ≠ 1 → LimQ y K) : StG n K (reactL cap a0 a1 j mode method y) := by
  have c1 := limQ_1 hK
  refine (outL_g h0 h1 hj hK).append (StG.append ?_ ?_)
  · split
    · exact StG.nil _ _
    · exact acrossL_g h0 h1 hj hK
  · split
    · split
      · exact put1_g hj (.inl ⟨rfl, hj⟩) c1
      · exact StG.nil _ _
    · rename_i hm
      have hq := hy hm
      split
      · refine (put1_g hj (.inl ⟨rfl, hj⟩) c1).append ((put1_g hj (.inl ⟨rfl, h0⟩) hq.neg).append ((put1_g hj (.inl ⟨rfl, h1⟩) hq).append ((put1_g hj (.inr (.inl ⟨rfl, h0⟩)) hq.neg).append ((put1_g hj (.inr (.inl ⟨rfl, h1⟩)) hq).append ?_))))
        split
        · exact put1_g hj (.inr (.inl ⟨rfl, hj⟩)) c1.neg
        · exact StG.nil _ _
      · refine (put1_g hj (.inl ⟨rfl, hj⟩) hq.neg).append ((put1_g hj (.inr (.inl ⟨rfl, hj⟩)) hq.neg).append ?_)
        split
        · exact (put1_g hj (.inr (.inl ⟨rfl, h0⟩)) c1.neg).append (put1_g hj (.inr (.inl ⟨rfl, h1⟩)) c1)
        · exact StG.nil _ _
theorem len_put1 (kind r c : Int) (q : Rat) : (put1 kind r c q).length ≤ 1 := by unfold put1; split <;> simp
theorem conductL_len (a0 a1 c e : Int) (q : Rat) : (conductL a0 a1 c e q).length ≤ 4 := by
  have h := len_put1
  have h1 := h 1 a0 c q; have h2 := h 1 a0 e (-q); have h3 := h 1 a1 c (-q); have h4 := h 1 a1 e q
  simp only [conductL, List.length_append]; omega
theorem lessL_len (a2 a3 j : Int) (q : Rat) : (lessL a2 a3 j q).length ≤ 2 := by
  have h1 := len_put1 1 j a2 (-q); have h2 := len_put1 1 j a3 q
  simp only [lessL, List.length_append]; omega
theorem if_len {P : Prop} [Decidable P] {L M : List StampP} {n : Nat} (h : L.length ≤ n) (k : M.length ≤ n) : (if P then L else M).length ≤ n := by split <;> assumption
theorem app_len {L M : List StampP} {a b : Nat} (h : L.length ≤ a) (k : M.length ≤ b) : (L ++ M).length ≤ a + b := by rw [List.length_append]; omega
theorem le_len {L : List StampP} {a b : Nat} (h : L.length ≤ a) (hab : a ≤ b) : L.length ≤ b := Nat.le_trans h hab
theorem reactL_len (cap : Bool) (a0 a1 j mode method : Int) (y : Rat) : (reactL cap a0 a1 j mode method y).length ≤ 10 := by
  have h := len_put1
  have hn : ([] : List StampP).length ≤ 2 := by simp
  unfold reactL
  refine le_len (app_len (outL_len _ _ _) (app_len (if_len hn (acrossL_len _ _ _)) (if_len (if_len (le_len (h _ _ _ _) (by omega)) (le_len hn (by omega))) (if_len (n := 6) (app_len (h _ _ _ _) (app_len (h _ _ _ _) (app_len (h _ _ _ _) (app_len (h _ _ _ _) (app_len (h _ _ _ _) (if_len (h _ _ _ _) (by simp))))))) ?_)))) (by omega)
  exact le_len (app_len (h _ _ _ _) (app_len (h _ _ _ _) (if_len (app_len (h _ _ _ _) (h _ _ _ _)) (by simp)))) (by omega)
theorem stampsD_len (d : DevP) (br : List Int) (k mode method : Int) (step : Int × Int) (seg : Nat) : (stampsD d br k mode method step seg).length ≤ 16 := by
  have h := len_put1
  have c := conductL_len
  have o := outL_len
  have a := acrossL_len
  have l := lessL_len
  unfold stampsD
  simp only []
  refine if_len (le_len (c _ _ _ _ _) (by omega)) (if_len (le_len (c _ _ _ _ _) (by omega)) (if_len (le_len (app_len (o _ _ _) (app_len (a _ _ _) (h _ _ _ _))) (by omega)) (if_len (le_len (app_len (h _ _ _ _) (h _ _ _ _)) (by omega)) (if_len (le_len (app_len (o _ _ _) (app_len (a _ _ _) (l _ _ _ _))) (by omega)) (if_len (le_len (app_len (h _ _ _ _) (h _ _ _ _)) (by omega)) (if_len (le_len (app_len (o _ _ _) (app_len (a _ _ _) (h _ _ _ _))) (by omega)) (if_len (le_len (app_len (o _ _ _) (app_len (h _ _ _ _) (app_len (h _ _ _ _) (app_len (a _ _ _) (l _ _ _ _))))) (by omega)) (if_len (le_len (reactL_len _ _ _ _ _ _ _) (by omega)) ?_))))))))
  exact le_len (app_len (c _ _ _ _ _) (if_len (app_len (h _ _ _ _) (h _ _ _ _)) (by simp))) (by omega)

theorem two_lim {K : Nat} (hK : 1 ≤ K) : LimQ ((2 : Int) /. 1) K := LimQ.mono (show LimQ ((2 : Int) /. 1) 1 from ⟨by decide, by decide⟩) hK
theorem stampsD_g {d : DevP} {br : List Int} {k mode method : Int} {step : Int × Int} {seg : Nat} {n : Int} (hat : ∀ i, d.at i < n) (hJ : isBr d.kind = true → br.getD k.toNat 0 < n) (hR : d.kind = 102 ∨ d.kind = 104 → br.getD d.ref.toNat 0 < n) (hk : k < 64)
    (hv : NumOK d.val.1 d.val.2) (hv0 : d.kind = 114 → d.val.1 ≠ 0) (hst : mode ≠ 1 → NumOK step.1 step.2 ∧ step.1 ≠ 0) (hg : LimQ (pQ (d.mg.getD seg (0, 0))) 128) (hc : LimQ (partV d.mkind d.mg d.mv seg) 128) : StG n 128 (stampsD d br k mode method step seg) := by
  have lx : LimQ (numQ d.val.1 d.val.2) 128 := (limQ_num hv).mono (by omega)
  unfold stampsD
  simp only []
  split
  · rename_i h; exact conductL_g (hat _) (hat _) (hat _) (hat _) (((limQ_num hv).inv (numQ_ne hv (hv0 h))).mono (by omega))
  split
  · exact conductL_g (hat _) (hat _) (hat _) (hat _) lx
  split
  · rename_i h
    have hj := hJ (by rw [h]; rfl)
    exact (outL_g (hat _) (hat _) hj (by omega)).append ((acrossL_g (hat _) (hat _) hj (by omega)).append (put1_g hj (.inr (.inr (.inl ⟨rfl, hk⟩))) (limQ_1 (by omega))))
  split
  · exact (put1_g (hat _) (.inr (.inr (.inl ⟨rfl, hk⟩))) (limQ_1 (by omega)).neg).append (put1_g (hat _) (.inr (.inr (.inl ⟨rfl, hk⟩))) (limQ_1 (by omega)))
  split
  · rename_i h
    have hj := hJ (by rw [h]; rfl)
    exact (outL_g (hat _) (hat _) hj (by omega)).append ((acrossL_g (hat _) (hat _) hj (by omega)).append (lessL_g (hat _) (hat _) hj lx))
  split
  · rename_i h
    have hr := hR (.inl h)
    exact (put1_g (hat _) (.inl ⟨rfl, hr⟩) lx).append (put1_g (hat _) (.inl ⟨rfl, hr⟩) lx.neg)
  split
  · rename_i h
    have hr := hR (.inr h)
    have hj := hJ (by rw [h]; rfl)
    exact (outL_g (hat _) (hat _) hj (by omega)).append ((acrossL_g (hat _) (hat _) hj (by omega)).append (put1_g hj (.inl ⟨rfl, hr⟩) lx.neg))
  split
  · rename_i h
    have hj := hJ (by rw [h]; rfl)
    exact (outL_g (hat _) (hat _) hj (by omega)).append ((put1_g (hat _) (.inl ⟨rfl, hj⟩) lx.neg).append ((put1_g (hat _) (.inl ⟨rfl, hj⟩) lx).append ((acrossL_g (hat _) (hat _) hj (by omega)).append (lessL_g (hat _) (hat _) hj lx))))
  split
  · rename_i h
    have hj := hJ (by rcases h with h | h <;> rw [h] <;> rfl)
    refine reactL_g (hat _) (hat _) hj (by omega) fun hm => ?_
    obtain ⟨s1, s2⟩ := hst hm
    have hq := LimQ.quo (limQ_num hv) (limQ_num s1) (numQ_ne s1 s2)
    unfold reactY
    split
    · exact (LimQ.mul hq (two_lim (by omega))).mono (by omega)
    · exact hq.mono (by omega)
  · refine (conductL_g (hat _) (hat _) (hat _) (hat _) hg).append ?_
    split
    · exact (put1_g (hat _) (.inr (.inr (.inr ⟨rfl, rfl⟩))) hc.neg).append (put1_g (hat _) (.inr (.inr (.inr ⟨rfl, rfl⟩))) hc)
    · exact StG.nil _ _

end Go.Proofs.YtmfmfpmkgmkgiaaGreatDoor
