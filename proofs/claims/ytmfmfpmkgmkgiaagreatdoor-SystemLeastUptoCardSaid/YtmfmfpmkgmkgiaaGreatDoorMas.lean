/- Contracts of the program's functions, and what they rest on: StE StF SumA. -/
import Derived.Test.YtmfmfpmkgmkgiaaGreatDoorMar
import Derived.Test.YtmfmfpmkgmkgiaaGreatDoorMal
set_option linter.unusedVariables false
set_option linter.unusedSimpArgs false
namespace Go.Proofs.YtmfmfpmkgmkgiaaGreatDoor
open Go.RowKit Go.Maps
open Rat

set_option maxRecDepth 100000 in
set_option maxHeartbeats 40000000 in
theorem svalue_calls (w : World) (m e : Int) (h : NumOK m e) :
    Calls Tryz.prog 149 #[.agg #[.int .i64 m, .int .i64 e]] w fun o w' => ∃ b, o = .returned (.pointer (some ⟨b, 0, none⟩)) ∧ RatB w' b (numQ m e) ∧ w.heap.size ≤ b ∧ w.grownBy w' none := by
  have hlq := limQ_num h
  have gw := gb_alloc w (.cells #[.int .i64 m, .int .i64 e] 25) none
  have hB := Blk.new w #[.int .i64 m, .int .i64 e] 25
  have hs1 : (w.alloc (.cells #[.int .i64 m, .int .i64 e] 25)).heap.size = w.heap.size + 1 := by simp
  obtain ⟨b0, b1, _⟩ := hB.two
  have HOK := Lib.hid h
  have hb := h.bounds
  clear h hB
  go_enter Tryz.func149, Tryz.ntmps149
  go_wp2_with fail
  generalize w.alloc (.cells #[.int .i64 m, .int .i64 e] 25) = wa at *
  generalize hs : w.heap.size = s at *
  refine (NValue_calls wa m e HOK.out).mono ?_
  rintro o w1 ⟨v, rfl, hv, hg1⟩
  obtain ⟨A1, n1, c1, A2, n2, c2, rfl, hn1, hn2⟩ := hv.forms
  have hC := Blk.new w1 #[.bool (decide ((numQ m e).num < 0)), .slice A1 n1 c1, .bool false, .slice A2 n2 c2] 94
  have g2 := gb_alloc w1 (.cells #[.bool (decide ((numQ m e).num < 0)), .slice A1 n1 c1, .bool false, .slice A2 n2 c2] 94) none
  have s1 := hg1.size
  have s2 := g2.size
  have hD : Hid (sg (decide ((numQ m e).num < 0)) (val 4294967296 (digs (numQ m e).num)) /. sg false (val 4294967296 (digs ((numQ m e).den : Int))) = numQ m e) := Lib.hid (ratV_divInt _)
  obtain ⟨d0, d1, d2, d3, _⟩ := hC.four
  have l1 := hlq.1
  have l2 := hlq.2
  go_wp2_with fail
  generalize w1.alloc (.cells #[.bool (decide ((numQ m e).num < 0)), .slice A1 n1 c1, .bool false, .slice A2 n2 c2] 94) = w2 at *
  refine (WRat_calls w2 _ false _ _ (digs (numQ m e).num) (digs ((numQ m e).den : Int)) (hn1.more g2) (hn2.more g2) (Nat.le_trans l1 (by omega)) (Nat.le_trans l2 (by omega)) (val_den_ne _)).mono ?_
  rintro o w3 ⟨b3, rfl, hr3, hb3, hg3⟩
  rw [hD.out] at hr3
  go_wp2
  go_ret
  exact ⟨b3, rfl, hr3, by omega, gb_trans gw (gb_trans hg1 (gb_trans g2 hg3))⟩


theorem PenS.cells {W0 w : World} {pb : Nat} {d : DevP} {An Av As Ag Am : Option Addr} {cn cv cs cg cm : Nat} {br : List Int} {k : Int} {L : List StampP} (h : PenS W0 w pb d An cn Av cv As cs Ag cg Am cm br k L) :
    w.cell? ⟨pb, 0, none⟩ = some (.int .u8 d.kind) ∧ w.cell? ⟨pb, 4, none⟩ = some (.int .i64 d.val.1) ∧ w.cell? ⟨pb, 5, none⟩ = some (.int .i64 d.val.2) ∧ w.cell? ⟨pb, 14, none⟩ = some (.int .i64 k) := by
  obtain ⟨Ab, nb, cb, lv, xs, h1, h2, h3, h4, h5⟩ := h.pen
  exact ⟨h2.cell 0, h2.cell 4, h2.cell 5, h2.cell 14⟩
theorem divInt_ne {m d : Int} (hd : d ≠ 0) (hm : m ≠ 0) : m /. d ≠ 0 := by
  intro h
  have h2 : m /. d = 0 /. 1 := by rw [h]; rfl
  rw [Rat.divInt_eq_divInt_iff hd (by decide)] at h2
  simp at h2
  exact hm h2
theorem numQ_ne {m e : Int} (h : NumOK m e) (h0 : m ≠ 0) : numQ m e ≠ 0 := by
  unfold numQ
  split
  · exact divInt_ne (pow10_ne _) h0
  · exact divInt_ne (by decide) (Int.mul_ne_zero (pow10_ne _) h0)


set_option maxRecDepth 100000 in
set_option maxHeartbeats 40000000 in
theorem write_r (W0 w : World) (pb : Nat) (d : DevP) (An : Option Addr) (cn : Nat) (Av : Option Addr) (cv : Nat) (As : Option Addr) (cs : Nat) (Ag : Option Addr) (cg : Nat) (Am : Option Addr) (cm : Nat) (br : List Int) (k : Int) (L : List StampP) (h : PenS W0 w pb d An cn Av cv As cs Ag cg Am cm br k L) (hn : NodesOK d) (h2 : 2 ≤ d.nodes.length) (hkd : d.kind = 114) (hv : NumOK d.val.1 d.val.2) (hv0 : d.val.1 ≠ 0) (hL : L.length ≤ 1000) (A1 : Option Addr) (n1 c1 : Nat) (A2 : Option Addr) (n2 c2 : Nat) (s1 s2 me mode method t1 t2 seg : Int) :
    Calls Tryz.prog 95 #[.pointer (some ⟨pb, 0, none⟩), .agg #[.slice A1 n1 c1, .slice A2 n2 c2, .int .i64 s1, .int .i64 s2, .int .i64 me], .agg #[.int .i64 mode, .int .i64 method, .int .i64 t1, .int .i64 t2], .int .i64 seg] w fun e w' => e = .returned (.tuple #[]) ∧ Hid (PenS W0 w' pb d An cn Av cv As cs Ag cg Am cm br k (L ++ conductL (d.at 0) (d.at 1) (d.at 0) (d.at 1) (numQ d.val.1 d.val.2)⁻¹) ∧ Keeps w w') := by
  have tk : (d.kind == 114) = true := by rw [beq_iff_eq]; exact hkd
  have HNE := Lib.hid (numQ_ne hv hv0)
  have HLQ := Lib.hid (limQ_num hv)
  have HLI := Lib.hid ((limQ_num hv).inv (numQ_ne hv hv0))
  clear hkd hv0
  have gw := gb_trans (gb_trans (gb_alloc w (.cells #[.slice A1 n1 c1, .slice A2 n2 c2, .int .i64 s1, .int .i64 s2, .int .i64 me] 27) none) (gb_alloc (w.alloc (.cells #[.slice A1 n1 c1, .slice A2 n2 c2, .int .i64 s1, .int .i64 s2, .int .i64 me] 27)) (.cells #[.int .i64 mode, .int .i64 method, .int .i64 t1, .int .i64 t2] 29) none)) (gb_alloc ((w.alloc (.cells #[.slice A1 n1 c1, .slice A2 n2 c2, .int .i64 s1, .int .i64 s2, .int .i64 me] 27)).alloc (.cells #[.int .i64 mode, .int .i64 method, .int .i64 t1, .int .i64 t2] 29)) (.cells #[.bool false, .slice none 0 0, .bool false, .slice none 0 0] 178) none)
  have HP := Lib.hid (h.more gw)
  have HN := Lib.hid hn
  have HK := Lib.hid (Keeps.more gw)
  have HI := Lib.hid (fun i => hn.i64 i)
  have HV := Lib.hid hv
  have hvb := hv.bounds
  obtain ⟨c0, c4, c5, c14⟩ := HP.out.cells
  have hNV := NValid_calls (((w.alloc (.cells #[.slice A1 n1 c1, .slice A2 n2 c2, .int .i64 s1, .int .i64 s2, .int .i64 me] 27)).alloc (.cells #[.int .i64 mode, .int .i64 method, .int .i64 t1, .int .i64 t2] 29)).alloc (.cells #[.bool false, .slice none 0 0, .bool false, .slice none 0 0] 178)) d.val.1 d.val.2 (by omega) (by omega) (by omega) (by omega)
  rw [show decide (NumOK d.val.1 d.val.2) = true from decide_eq_true hv] at hNV
  have HNV := Lib.hid hNV
  clear h hn hv hNV
  go_enter Tryz.func95, Tryz.ntmps95
  go_wp2_with fail
  generalize ((w.alloc (.cells #[.slice A1 n1 c1, .slice A2 n2 c2, .int .i64 s1, .int .i64 s2, .int .i64 me] 27)).alloc (.cells #[.int .i64 mode, .int .i64 method, .int .i64 t1, .int .i64 t2] 29)).alloc (.cells #[.bool false, .slice none 0 0, .bool false, .slice none 0 0] 178) = wa at *
  refine HNV.out.mono ?_
  rintro e w1 ⟨rfl, hg1⟩
  have HP := Lib.hid (HP.out.more hg1)
  have HK := Lib.hid (HK.out.trans (Keeps.more hg1))
  clear c0 c4 c5 c14 HNV gw hg1
  obtain ⟨c0, c4, c5, c14⟩ := HP.out.cells
  go_wp2_with fail
  refine (svalue_calls w1 d.val.1 d.val.2 HV.out).mono ?_
  rintro e w2 ⟨xb, rfl, hx, hxb, hg2⟩
  have HP := Lib.hid (HP.out.more hg2)
  have HK := Lib.hid (HK.out.trans (Keeps.more hg2))
  have HX := Lib.hid hx
  clear c0 c4 c5 c14 hx hg2 hxb
  obtain ⟨c0, c4, c5, c14⟩ := HP.out.cells
  go_wp2_with fail
  refine (at_calls W0 w2 pb d An cn Av cv As cs Ag cg Am cm br k _ HP.out HN.out 0 (by omega) (by omega)).mono ?_
  rintro e w' ⟨rfl, rfl⟩
  go_wp2_with fail
  refine (at_calls W0 w2 pb d An cn Av cv As cs Ag cg Am cm br k _ HP.out HN.out 1 (by omega) (by omega)).mono ?_
  rintro e w' ⟨rfl, rfl⟩
  have ga := gb_alloc w2 (.cells #[.bool false, .slice none 0 0, .bool false, .slice none 0 0] 178) none
  have HZ := Lib.hid (RatB.new w2 178)
  have HX := Lib.hid (HX.out.more ga)
  have HGA := Lib.hid ga
  clear ga c0 c4 c5 c14
  go_wp2_with fail
  generalize w2.alloc (.cells #[.bool false, .slice none 0 0, .bool false, .slice none 0 0] 178) = wb at *
  refine (Inv_calls wb w2.heap.size xb 0 _ HZ.out HX.out HNE.out (HLQ.out.mono (by omega))).mono ?_
  rintro e w3 ⟨rfl, hy, hg3⟩
  have HG3 := Lib.hid (gb_new HGA.out hg3 (Nat.le_refl _))
  have HP := Lib.hid (HP.out.more HG3.out)
  have HK := Lib.hid (HK.out.trans (Keeps.more HG3.out))
  have HY := Lib.hid hy
  clear hy hg3
  go_wp2_with fail
  refine (conduct_calls W0 w3 pb d An cn Av cv As cs Ag cg Am cm br k _ HP.out HN.out h2 (d.at 0) (d.at 1) (HI.out 0) (HI.out 1) w2.heap.size _ HY.out (HLI.out.mono (by omega)) (by omega)).mono ?_
  rintro e w4 ⟨rfl, h1⟩
  go_wp2_with fail
  go_end0
  exact ⟨rfl, Lib.hid ⟨h1.out.1, HK.out.trans h1.out.2⟩⟩

set_option maxRecDepth 100000 in
set_option maxHeartbeats 40000000 in
theorem write_v (W0 w : World) (pb : Nat) (d : DevP) (An : Option Addr) (cn : Nat) (Av : Option Addr) (cv : Nat) (As : Option Addr) (cs : Nat) (Ag : Option Addr) (cg : Nat) (Am : Option Addr) (cm : Nat) (br : List Int) (k : Int) (L : List StampP) (h : PenS W0 w pb d An cn Av cv As cs Ag cg Am cm br k L) (hn : NodesOK d) (h2 : 2 ≤ d.nodes.length) (hkd : d.kind = 118) (hv : NumOK d.val.1 d.val.2) (hL : L.length ≤ 1000) (hk0 : 0 ≤ k) (hk1 : k.toNat < br.length) (ij : I64 (br.getD k.toNat 0)) (ik : I64 k) (A1 : Option Addr) (n1 c1 : Nat) (A2 : Option Addr) (n2 c2 : Nat) (s1 s2 me mode method t1 t2 seg : Int) :
    Calls Tryz.prog 95 #[.pointer (some ⟨pb, 0, none⟩), .agg #[.slice A1 n1 c1, .slice A2 n2 c2, .int .i64 s1, .int .i64 s2, .int .i64 me], .agg #[.int .i64 mode, .int .i64 method, .int .i64 t1, .int .i64 t2], .int .i64 seg] w fun e w' => e = .returned (.tuple #[]) ∧ Hid (PenS W0 w' pb d An cn Av cv As cs Ag cg Am cm br k (L ++ (outL (d.at 0) (d.at 1) (br.getD k.toNat 0) ++ (acrossL (d.at 0) (d.at 1) (br.getD k.toNat 0) ++ put1 3 (br.getD k.toNat 0) k 1))) ∧ Keeps w w') := by
  have tk1 : (d.kind == 114) = false := by rw [beq_eq_false_iff_ne]; omega
  have tk2 : (d.kind == 103) = false := by rw [beq_eq_false_iff_ne]; omega
  have tk : (d.kind == 118) = true := by rw [beq_iff_eq]; exact hkd
  have hown := fun w' L' (h' : PenS W0 w' pb d An cn Av cv As cs Ag cg Am cm br k L') => own_calls W0 w' pb d An cn Av cv As cs Ag cg Am cm br k L' h' hk0 hk1
  have hout := fun w' L' (h' : PenS W0 w' pb d An cn Av cv As cs Ag cg Am cm br k L') (hl : L'.length ≤ 1000000) => out_calls W0 w' pb d An cn Av cv As cs Ag cg Am cm br k L' h' hn h2 hk0 hk1 ij hl
  have hacr := fun w' L' (h' : PenS W0 w' pb d An cn Av cv As cs Ag cg Am cm br k L') (hl : L'.length ≤ 1000000) => across_calls W0 w' pb d An cn Av cv As cs Ag cg Am cm br k L' h' hn h2 hk0 hk1 ij hl
  have HOWN := Lib.hid hown
  have HOUT := Lib.hid hout
  have HACR := Lib.hid hacr
  have HJ := Lib.hid ij
  have HIK := Lib.hid ik
  clear hkd hown hout hacr ij ik
  generalize br.getD k.toNat 0 = J at *
  have l1 : (L ++ outL (d.at 0) (d.at 1) J).length ≤ L.length + 2 := by unfold outL put1; split <;> split <;> simp
  have l2 : (L ++ outL (d.at 0) (d.at 1) J ++ acrossL (d.at 0) (d.at 1) J).length ≤ L.length + 4 := by
    rw [List.length_append]; have : (acrossL (d.at 0) (d.at 1) J).length ≤ 2 := by unfold acrossL put1; split <;> split <;> simp
    omega
  have hfin : L ++ outL (d.at 0) (d.at 1) J ++ acrossL (d.at 0) (d.at 1) J ++ put1 3 J k 1 = L ++ (outL (d.at 0) (d.at 1) J ++ (acrossL (d.at 0) (d.at 1) J ++ put1 3 J k 1)) := by simp only [List.append_assoc]
  have HFIN := Lib.hid hfin
  clear hfin
  have gw := gb_trans (gb_trans (gb_alloc w (.cells #[.slice A1 n1 c1, .slice A2 n2 c2, .int .i64 s1, .int .i64 s2, .int .i64 me] 27) none) (gb_alloc (w.alloc (.cells #[.slice A1 n1 c1, .slice A2 n2 c2, .int .i64 s1, .int .i64 s2, .int .i64 me] 27)) (.cells #[.int .i64 mode, .int .i64 method, .int .i64 t1, .int .i64 t2] 29) none)) (gb_alloc ((w.alloc (.cells #[.slice A1 n1 c1, .slice A2 n2 c2, .int .i64 s1, .int .i64 s2, .int .i64 me] 27)).alloc (.cells #[.int .i64 mode, .int .i64 method, .int .i64 t1, .int .i64 t2] 29)) (.cells #[.bool false, .slice none 0 0, .bool false, .slice none 0 0] 178) none)
  have HP := Lib.hid (h.more gw)
  have HN := Lib.hid hn
  have HK := Lib.hid (Keeps.more gw)
  have HI := Lib.hid (fun i => hn.i64 i)
  have HV := Lib.hid hv
  have hvb := hv.bounds
  obtain ⟨c0, c4, c5, c14⟩ := HP.out.cells
  have hNV := NValid_calls (((w.alloc (.cells #[.slice A1 n1 c1, .slice A2 n2 c2, .int .i64 s1, .int .i64 s2, .int .i64 me] 27)).alloc (.cells #[.int .i64 mode, .int .i64 method, .int .i64 t1, .int .i64 t2] 29)).alloc (.cells #[.bool false, .slice none 0 0, .bool false, .slice none 0 0] 178)) d.val.1 d.val.2 (by omega) (by omega) (by omega) (by omega)
  rw [show decide (NumOK d.val.1 d.val.2) = true from decide_eq_true hv] at hNV
  have HNV := Lib.hid hNV
  clear h hn hv hNV
  go_enter Tryz.func95, Tryz.ntmps95
  go_wp2_with fail
  generalize ((w.alloc (.cells #[.slice A1 n1 c1, .slice A2 n2 c2, .int .i64 s1, .int .i64 s2, .int .i64 me] 27)).alloc (.cells #[.int .i64 mode, .int .i64 method, .int .i64 t1, .int .i64 t2] 29)).alloc (.cells #[.bool false, .slice none 0 0, .bool false, .slice none 0 0] 178) = wa at *
  refine HNV.out.mono ?_
  rintro e w1 ⟨rfl, hg1⟩
  have HP := Lib.hid (HP.out.more hg1)
  have HK := Lib.hid (HK.out.trans (Keeps.more hg1))
  clear c0 c4 c5 c14 HNV gw hg1
  obtain ⟨c0, c4, c5, c14⟩ := HP.out.cells
  go_wp2_with fail
  refine (svalue_calls w1 d.val.1 d.val.2 HV.out).mono ?_
  rintro e w2 ⟨xb, rfl, hx, hxb, hg2⟩
  have HP := Lib.hid (HP.out.more hg2)
  have HK := Lib.hid (HK.out.trans (Keeps.more hg2))
  have HX := Lib.hid hx
  clear c0 c4 c5 c14 hx hg2 hxb
  obtain ⟨c0, c4, c5, c14⟩ := HP.out.cells
  go_wp2_with fail
  refine (HOUT.out w2 _ HP.out (by omega)).mono ?_
  rintro e w3 ⟨rfl, h1⟩
  have HP := Lib.hid h1.out.1
  have HK := Lib.hid (HK.out.trans h1.out.2)
  clear h1 c0 c4 c5 c14
  go_wp2_with fail
  refine (HACR.out w3 _ HP.out (by omega)).mono ?_
  rintro e w4 ⟨rfl, h1⟩
  have HP := Lib.hid h1.out.1
  have HK := Lib.hid (HK.out.trans h1.out.2)
  clear h1
  obtain ⟨c0, c4, c5, c14⟩ := HP.out.cells
  have hcw : ∀ w', w4.grownBy w' none → w'.cell? ⟨pb, 14, none⟩ = some (.int .i64 k) := fun w' h => gb_cell h c14 (by simp)
  have HCW := Lib.hid hcw
  clear c0 c4 c5 hcw
  go_wp2_with fail
  go_region_held3 (fun w' => w'.cell? ⟨pb, 14, none⟩ = some (.int .i64 k)) (first | assumption | ((refine HCW.out _ ?_; (focus ((repeat (first | assumption | exact gb_refl _ _ | exact gb_drew _ _ | exact gb_alloc _ _ _ | refine gb_trans ?_ (gb_alloc _ _ _) | refine gb_trans ?_ (gb_drew _ _) | refine gb_trans ?_ (by assumption))); done))))) (first
    | (go_at_call 156; refine (HOWN.out _ _ (HP.out.more (by (focus ((repeat (first | assumption | exact gb_refl _ _ | exact gb_drew _ _ | exact gb_alloc _ _ _ | refine gb_trans ?_ (gb_alloc _ _ _) | refine gb_trans ?_ (gb_drew _ _) | refine gb_trans ?_ (by assumption))); done))))).mono ?_; rintro e w5 ⟨rfl, hg5⟩)
    | (go_at_call 157; refine (one_calls _).mono ?_; rintro e w6 ⟨ob, rfl, hob, hg6⟩)
    | (go_at_call 155; refine (put_calls W0 _ pb d An cn Av cv As cs Ag cg Am cm br k _ (HP.out.more (by (focus ((repeat (first | assumption | exact gb_refl _ _ | exact gb_drew _ _ | exact gb_alloc _ _ _ | refine gb_trans ?_ (gb_alloc _ _ _) | refine gb_trans ?_ (gb_drew _ _) | refine gb_trans ?_ (by assumption))); done)))) 3 J k ⟨by omega, by omega⟩ HJ.out HIK.out ob 1 (hob.more (by (focus ((repeat (first | assumption | exact gb_refl _ _ | exact gb_drew _ _ | exact gb_alloc _ _ _ | refine gb_trans ?_ (gb_alloc _ _ _) | refine gb_trans ?_ (gb_drew _ _) | refine gb_trans ?_ (by assumption))); done)))) limQ_one (by omega)).mono ?_; rintro e w7 ⟨rfl, h7⟩; have c14' := h7.out.1.cells.2.2.2))
  all_goals
    go_wp2_with fail
    go_end0
    exact ⟨rfl, Lib.hid ⟨by rw [← HFIN.out]; exact h7.out.1, HK.out.trans ((Keeps.more (show w4.grownBy _ none by (focus ((repeat (first | assumption | exact gb_refl _ _ | exact gb_drew _ _ | exact gb_alloc _ _ _ | refine gb_trans ?_ (gb_alloc _ _ _) | refine gb_trans ?_ (gb_drew _ _) | refine gb_trans ?_ (by assumption))); done)))).trans h7.out.2)⟩⟩

end Go.Proofs.YtmfmfpmkgmkgiaaGreatDoor

namespace Go.Proofs.YtmfmfpmkgmkgiaaGreatDoor
open Go.RowKit Go.Maps
open Rat
theorem flat_ok {f : FlatP} (h : flatE f = 0) : f.nodes.length ≤ 32 ∧ f.devs.length ≤ 64 ∧ unk f ≤ 48 ∧ 1 ≤ f.nodes.length ∧ ∀ i, i < f.devs.length → devB f.nodes.length f.devs (f.devs.getD i dev0) = true := by
  unfold flatE at h
  by_cases h1 : (headB f && nodesHB f && f.nodes.all longOK && devsB f && decide (names f.devs).Nodup) = true
  · rw [if_pos h1] at h
    simp only [Bool.and_eq_true] at h1
    obtain ⟨⟨⟨⟨_, h2⟩, _⟩, h3⟩, _⟩ := h1
    unfold nodesHB at h2
    simp only [Bool.and_eq_true, decide_eq_true_eq] at h2
    have h4 : unk f ≤ 48 := by
      by_cases hu : unk f ≤ 48
      · exact hu
      · rw [if_neg hu] at h; omega
    exact ⟨h2.1.1.1.2, h2.1.2, h4, h2.1.1.1.1, of_decide_eq_true h3⟩
  · rw [if_neg h1] at h; omega
theorem dev_nodes {nn : Nat} {ds : List DevP} {d : DevP} (h : devB nn ds d = true) (hnn : nn ≤ 32) : NodesOK d ∧ (d.nodes.length : Int) = nodesN d.kind ∧ nodesN d.kind ≠ 0 ∧ kindB ds d = true := by
  unfold devB at h
  simp only [Bool.and_eq_true, decide_eq_true_eq] at h
  obtain ⟨⟨⟨⟨h1, h2⟩, _⟩, h3⟩, h4⟩ := h
  refine ⟨fun i hi => ?_, h2, h1, h4⟩
  have := of_decide_eq_true h3 i hi
  omega

set_option maxRecDepth 100000 in
set_option maxHeartbeats 40000000 in
theorem begin_calls (w : World) (f : FlatP) (A1 : Option Addr) (c1 : Nat) (A2 : Option Addr) (c2 : Nat) (hf : FlatAt w f A1 c1 A2 c2) (hG : GlobOK w) (h0 : flatE f = 0)
    (mode method : Int) (step : Int × Int) (i1 : I64 step.1) (i2 : I64 step.2) (hs : setB mode method step = true) (k : Nat) (hk : k < f.devs.length) (seg : Int) (hb : isBent (f.devs.getD k dev0).kind = false) :
    Calls Tryz.prog 94 #[.agg #[.slice A1 f.nodes.length c1, .slice A2 f.devs.length c2, .int .i64 f.step.1, .int .i64 f.step.2, .int .i64 f.method], .int .i64 (k : Int), .agg #[.int .i64 mode, .int .i64 method, .int .i64 step.1, .int .i64 step.2], .int .i64 seg] w fun e w' => ∃ W0 pb An cn Av cv As cs Ag cg Am cm, e = .returned (.tuple #[.pointer (some ⟨pb, 0, none⟩), .int .i64 0]) ∧ PenS W0 w' pb (f.devs.getD k dev0) An cn Av cv As cs Ag cg Am cm (brs f.devs ((f.nodes.length : Int) - 1) f.devs.length) k [] ∧ w.grownBy w' none ∧ w.grownBy W0 none := by
  have g1 := gb_alloc w (.cells #[.slice A1 f.nodes.length c1, .slice A2 f.devs.length c2, .int .i64 f.step.1, .int .i64 f.step.2, .int .i64 f.method] 27) none
  have g2 := gb_alloc (w.alloc (.cells #[.slice A1 f.nodes.length c1, .slice A2 f.devs.length c2, .int .i64 f.step.1, .int .i64 f.step.2, .int .i64 f.method] 27)) (.cells #[.int .i64 mode, .int .i64 method, .int .i64 step.1, .int .i64 step.2] 29) none
  have gw := gb_trans g1 g2
  have hFB := (FlatBox.of (Blk.new w #[.slice A1 f.nodes.length c1, .slice A2 f.devs.length c2, .int .i64 f.step.1, .int .i64 f.step.2, .int .i64 f.method] 27)).more g2
  have hSB := Blk.new (w.alloc (.cells #[.slice A1 f.nodes.length c1, .slice A2 f.devs.length c2, .int .i64 f.step.1, .int .i64 f.step.2, .int .i64 f.method] 27)) #[.int .i64 mode, .int .i64 method, .int .i64 step.1, .int .i64 step.2] 29
  rw [World.size_alloc] at hSB
  have hCF := FCheck_calls _ f A1 c1 A2 c2 (hf.more gw) (hG.more gw)
  rw [h0] at hCF
  have HCF := Lib.hid hCF
  have HF := Lib.hid (hf.more gw)
  have HG := Lib.hid (hG.more gw)
  have HFB := Lib.hid hFB
  have HSB := Lib.hid hSB
  have HS := Lib.hid hs
  have H0 := Lib.hid h0
  obtain ⟨p0, p1, p2, p3, p4⟩ := hFB
  obtain ⟨r0, r1, r2, r3, _⟩ := hSB.four
  clear hCF hf hG h0 g1 g2 hs hSB
  go_enter Tryz.func94, Tryz.ntmps94
  go_wp2_with fail
  generalize (w.alloc (.cells #[.slice A1 f.nodes.length c1, .slice A2 f.devs.length c2, .int .i64 f.step.1, .int .i64 f.step.2, .int .i64 f.method] 27)).alloc (.cells #[.int .i64 mode, .int .i64 method, .int .i64 step.1, .int .i64 step.2] 29) = wa at *
  generalize w.heap.size = s at *
  refine HCF.out.mono ?_
  rintro e w1 ⟨rfl, hg1⟩
  clear p0 p1 p2 p3 p4 r0 r1 r2 r3
  obtain ⟨p0, p1, p2, p3, p4⟩ := HFB.out.more hg1
  obtain ⟨r0, r1, r2, r3, _⟩ := (HSB.out.more hg1).four
  have hCS := SCheck_calls w1 mode method step i1 i2
  rw [HS.out, if_pos rfl] at hCS
  have HCS := Lib.hid hCS
  clear hCS
  go_wp2_with fail
  refine HCS.out.mono ?_
  rintro e w2 ⟨rfl, hg2⟩
  clear p0 p1 p2 p3 p4 r0 r1 r2 r3
  have g12 := gb_trans hg1 hg2
  obtain ⟨p0, p1, p2, p3, p4⟩ := HFB.out.more g12
  obtain ⟨b, o, An, cn, Av, cv, As, cs, Ag, cg, Am, cm, rfl, hat, hc⟩ := (HF.out.more g12).devs.at2 hk
  have e1 : (k : Int) < (f.devs.length : Int) := by omega
  have e0 : ¬ (k : Int) < 0 := by omega
  have e2 : ¬ (f.devs.length : Int) ≤ (k : Int) := by omega
  have e3 : (0 : Int) ≤ (k : Int) := by omega
  have HAT := Lib.hid hat
  generalize hdd : f.devs.getD k dev0 = d at *
  have HDD := Lib.hid hdd
  clear hdd
  have t100 : (d.kind == 100) = false := by rw [beq_eq_false_iff_ne]; intro h; simp [isBent, h] at hb
  have t115 : (d.kind == 115) = false := by rw [beq_eq_false_iff_ne]; intro h; simp [isBent, h] at hb
  obtain ⟨q0, q1, q2, q3, q4, q5, q6, q7, q8, q9, q10, q11, q12⟩ := hc
  have ga := gb_alloc w2 (.cells #[.int .u8 d.kind, .string d.name, .slice An d.nodes.length cn, .int .i64 d.ref, .int .i64 d.val.1, .int .i64 d.val.2, .int .i64 d.wkind, .slice Av d.wvals.length cv, .slice As d.wsteps.length cs, .string d.mname, .int .u8 d.mkind, .slice Ag d.mg.length cg, .slice Am d.mv.length cm] 89) none
  have hDB := DevBox.of (Blk.new w2 #[.int .u8 d.kind, .string d.name, .slice An d.nodes.length cn, .int .i64 d.ref, .int .i64 d.val.1, .int .i64 d.val.2, .int .i64 d.wkind, .slice Av d.wvals.length cv, .slice As d.wsteps.length cs, .string d.mname, .int .u8 d.mkind, .slice Ag d.mg.length cg, .slice Am d.mv.length cm] 89)
  have HDB := Lib.hid hDB
  obtain ⟨m0, m1, m2, m3, m4, m5, m6, m7, m8, m9, m10, m11, m12⟩ := hDB
  have p0 := gb_cell ga p0 (by simp)
  have p1 := gb_cell ga p1 (by simp)
  have p2 := gb_cell ga p2 (by simp)
  have p3 := gb_cell ga p3 (by simp)
  have p4 := gb_cell ga p4 (by simp)
  have hU := Unknowns_calls (w2.alloc (.cells #[.int .u8 d.kind, .string d.name, .slice An d.nodes.length cn, .int .i64 d.ref, .int .i64 d.val.1, .int .i64 d.val.2, .int .i64 d.wkind, .slice Av d.wvals.length cv, .slice As d.wsteps.length cs, .string d.mname, .int .u8 d.mkind, .slice Ag d.mg.length cg, .slice Am d.mv.length cm] 89)) f A1 c1 (some ⟨b, o, none⟩) c2 ((HF.out.more g12).more ga) ((HG.out.more g12).more ga) H0.out
  have HU := Lib.hid hU
  clear hU hat hb
  go_wp2_with fail
  refine HU.out.mono ?_
  rintro e w3 ⟨v, rfl, hbr, hg3⟩
  clear q0 q1 q2 q3 q4 q5 q6 q7 q8 q9 q10 q11 q12 p0 p1 p2 p3 p4 m0 m1 m2 m3 m4 m5 m6 m7 m8 m9 m10 m11 m12
  obtain ⟨m0, m1, m2, m3, m4, m5, m6, m7, m8, m9, m10, m11, m12⟩ := HDB.out.more hg3
  have hfr : ∃ Ab nb cb, v = .slice Ab nb cb := by obtain ⟨A, c, rfl, _⟩ := hbr; exact ⟨_, _, _, rfl⟩
  obtain ⟨Ab, nb, cb, rfl⟩ := hfr
  have HBR := Lib.hid hbr
  have gW := gb_trans gw (gb_trans g12 (gb_trans ga hg3))
  have HPEN := Lib.hid (PenS.mk (W0 := w3) (w := w3.alloc (.cells #[.int .u8 d.kind, .string d.name, .slice An d.nodes.length cn, .int .i64 d.ref, .int .i64 d.val.1, .int .i64 d.val.2, .int .i64 d.wkind, .slice Av d.wvals.length cv, .slice As d.wsteps.length cs, .string d.mname, .int .u8 d.mkind, .slice Ag d.mg.length cg, .slice Am d.mv.length cm, .slice Ab nb cb, .int .i64 (k : Int), .slice none 0 0] 173)) (pb := w3.heap.size) (L := []) (Nat.le_refl _) (gb_alloc _ _ _) (HAT.out.more (gb_trans ga hg3)) ⟨Ab, nb, cb, .slice none 0 0, [], HBR.out, Blk.new _ _ _, OwnQ.nil _ _ _ _, rfl, by simp [Value.ownBlock]⟩)
  have HGW := Lib.hid gW
  clear hbr gW ga hg3 g12 gw hg1 hg2
  go_wp2_with fail
  go_ret2
  exact ⟨w3, w3.heap.size, An, cn, Av, cv, As, cs, Ag, cg, Am, cm, rfl, by rw [HDD.out]; exact HPEN.out, gb_trans HGW.out (gb_alloc _ _ _), HGW.out⟩
def stampsL (f : FlatP) (k : Nat) : List StampP :=
  let d := f.devs.getD k dev0
  let J := (brs f.devs ((f.nodes.length : Int) - 1) f.devs.length).getD k 0
  if d.kind = 114 then conductL (d.at 0) (d.at 1) (d.at 0) (d.at 1) (numQ d.val.1 d.val.2)⁻¹
  else outL (d.at 0) (d.at 1) J ++ (acrossL (d.at 0) (d.at 1) J ++ put1 3 J k 1)
def StampRow (w : World) (v : Value) (L : List StampP) : Prop :=
  ∃ A c, v = .slice A L.length c ∧ (0 < L.length → ∃ b, A = some ⟨b, 0, none⟩ ∧ ∀ i (hi : i < L.length), ∃ cs, StampR w cs L[i] ∧ ∀ j, j < 7 → w.cell? ⟨b, i * 7 + j, none⟩ = cs[j]?)
theorem PenS.out {W0 w : World} {pb : Nat} {d : DevP} {An Av As Ag Am : Option Addr} {cn cv cs cg cm : Nat} {br : List Int} {k : Int} {L : List StampP} (h : PenS W0 w pb d An cn Av cv As cs Ag cg Am cm br k L) :
    ∃ A c, w.cell? ⟨pb, 15, none⟩ = some (.slice A L.length c) ∧ StampRow w (.slice A L.length c) L := by
  obtain ⟨Ab, nb, cb, lv, xs, h1, h2, h3, h4, h5⟩ := h.pen
  have hlen := h4.length
  rcases h3.1.2 with ⟨rfl, h0⟩ | ⟨g, cap, cur, rfl, _, hh, _, _, _, htk⟩
  · refine ⟨none, 0, by rw [h0]; exact h2.cell 15, ⟨none, 0, rfl, fun hp => by omega⟩⟩
  · refine ⟨some ⟨g, 0, none⟩, cap, h2.cell 15, ⟨_, _, rfl, fun _ => ⟨g, rfl, fun i hi => ?_⟩⟩⟩
    obtain ⟨cs', hr, hcells⟩ := h4.at i hi
    refine ⟨cs', hr, fun j hj => ?_⟩
    rw [cell_of_heap hh, ← hcells j hj, ← htk, List.getElem?_take, if_pos (by omega)]
    simp
theorem brs_getD {ds : List DevP} {n0 : Int} {t k : Nat} (h : k < t) : (brs ds n0 t).getD k 0 = brAt ds n0 k := by
  simp [brs, List.getD, h]

set_option maxRecDepth 100000 in
set_option maxHeartbeats 40000000 in
theorem SOf_calls (w : World) (f : FlatP) (A1 : Option Addr) (c1 : Nat) (A2 : Option Addr) (c2 : Nat) (hf : FlatAt w f A1 c1 A2 c2) (hG : GlobOK w) (h0 : flatE f = 0)
    (mode method : Int) (step : Int × Int) (i1 : I64 step.1) (i2 : I64 step.2) (hs : setB mode method step = true) (k : Nat) (hk : k < f.devs.length) (seg : Int) (hkd : (f.devs.getD k dev0).kind = 114 ∨ (f.devs.getD k dev0).kind = 118) :
    Calls Tryz.prog 44 #[.agg #[.slice A1 f.nodes.length c1, .slice A2 f.devs.length c2, .int .i64 f.step.1, .int .i64 f.step.2, .int .i64 f.method], .int .i64 (k : Int), .agg #[.int .i64 mode, .int .i64 method, .int .i64 step.1, .int .i64 step.2], .int .i64 seg] w fun e w' => ∃ A c, e = .returned (.tuple #[.slice A (stampsL f k).length c, .int .i64 0]) ∧ StampRow w' (.slice A (stampsL f k).length c) (stampsL f k) ∧ w.grownBy w' none := by
  have hbn : isBent (f.devs.getD k dev0).kind = false := by unfold isBent; rcases hkd with h | h <;> rw [h] <;> rfl
  have g1 := gb_alloc w (.cells #[.slice A1 f.nodes.length c1, .slice A2 f.devs.length c2, .int .i64 f.step.1, .int .i64 f.step.2, .int .i64 f.method] 27) none
  have g2 := gb_alloc (w.alloc (.cells #[.slice A1 f.nodes.length c1, .slice A2 f.devs.length c2, .int .i64 f.step.1, .int .i64 f.step.2, .int .i64 f.method] 27)) (.cells #[.int .i64 mode, .int .i64 method, .int .i64 step.1, .int .i64 step.2] 29) none
  have gw := gb_trans g1 g2
  have hFB := (FlatBox.of (Blk.new w #[.slice A1 f.nodes.length c1, .slice A2 f.devs.length c2, .int .i64 f.step.1, .int .i64 f.step.2, .int .i64 f.method] 27)).more g2
  have hSB := Blk.new (w.alloc (.cells #[.slice A1 f.nodes.length c1, .slice A2 f.devs.length c2, .int .i64 f.step.1, .int .i64 f.step.2, .int .i64 f.method] 27)) #[.int .i64 mode, .int .i64 method, .int .i64 step.1, .int .i64 step.2] 29
  rw [World.size_alloc] at hSB
  have HBG := Lib.hid (begin_calls _ f A1 c1 A2 c2 (hf.more gw) (hG.more gw) h0 mode method step i1 i2 hs k hk seg hbn)
  have HFB := Lib.hid hFB
  have HSB := Lib.hid hSB
  have HGW := Lib.hid gw
  obtain ⟨p0, p1, p2, p3, p4⟩ := hFB
  obtain ⟨r0, r1, r2, r3, _⟩ := hSB.four
  obtain ⟨f1, f2, f3, f4, f5⟩ := flat_ok h0
  obtain ⟨d1, d2, d3, d4⟩ := dev_nodes (f5 k hk) f1
  have hbr := brs_getD (ds := f.devs) (n0 := (f.nodes.length : Int) - 1) hk
  have hnb := nbr_le f.devs k
  have hsl : stampsL f k = (let d := f.devs.getD k dev0; let J := (brs f.devs ((f.nodes.length : Int) - 1) f.devs.length).getD k 0; if d.kind = 114 then conductL (d.at 0) (d.at 1) (d.at 0) (d.at 1) (numQ d.val.1 d.val.2)⁻¹ else outL (d.at 0) (d.at 1) J ++ (acrossL (d.at 0) (d.at 1) J ++ put1 3 J k 1)) := rfl
  have hJ : I64 ((brs f.devs ((f.nodes.length : Int) - 1) f.devs.length).getD k 0) := by rw [hbr]; unfold brAt; split <;> exact ⟨by omega, by omega⟩
  have hbl : k < (brs f.devs ((f.nodes.length : Int) - 1) f.devs.length).length := by rw [brs_length]; exact hk
  generalize hSL : stampsL f k = SL at *
  dsimp only at hsl
  generalize brs f.devs ((f.nodes.length : Int) - 1) f.devs.length = BR at *
  generalize f.devs.getD k dev0 = d at *
  have HSLE := Lib.hid hsl
  have HD1 := Lib.hid d1
  have HKB := Lib.hid d4
  have HJ := Lib.hid hJ
  have h2n : 2 ≤ d.nodes.length := by rcases hkd with h | h <;> (rw [h] at d2; simp [nodesN] at d2; omega)
  clear hf hG h0 hs hbn g1 g2 gw hSB f1 f3 f4 f5 d1 d2 d3 d4 hbr hnb hsl hJ hSL
  go_enter Tryz.func44, Tryz.ntmps44
  go_wp2_with fail
  generalize (w.alloc (.cells #[.slice A1 f.nodes.length c1, .slice A2 f.devs.length c2, .int .i64 f.step.1, .int .i64 f.step.2, .int .i64 f.method] 27)).alloc (.cells #[.int .i64 mode, .int .i64 method, .int .i64 step.1, .int .i64 step.2] 29) = wa at *
  generalize w.heap.size = s at *
  refine HBG.out.mono ?_
  rintro e w1 ⟨W0, pb, An, cn, Av, cv, As, cs, Ag, cg, Am, cm, rfl, hpen, hg1, hgW⟩
  clear p0 p1 p2 p3 p4 r0 r1 r2 r3
  obtain ⟨p0, p1, p2, p3, p4⟩ := HFB.out.more hg1
  obtain ⟨r0, r1, r2, r3, _⟩ := (HSB.out.more hg1).four
  have HGA := Lib.hid (gb_trans HGW.out hgW)
  have HPEN := Lib.hid hpen
  clear hpen hg1 hgW
  rcases hkd with hkd | hkd
  · have hval : NumOK d.val.1 d.val.2 ∧ d.val.1 ≠ 0 := by
      have h := HKB.out
      unfold kindB at h
      rw [if_neg (by omega), if_neg (by omega)] at h
      simp only [Bool.and_eq_true, hkd] at h
      obtain ⟨⟨⟨⟨_, h1⟩, h2⟩, _⟩, _⟩ := h
      exact ⟨of_decide_eq_true h1, by simpa using h2⟩
    have HW := Lib.hid (write_r W0 w1 pb d An cn Av cv As cs Ag cg Am cm BR k [] HPEN.out HD1.out h2n hkd hval.1 hval.2 (by simp) A1 f.nodes.length c1 A2 f.devs.length c2 f.step.1 f.step.2 f.method mode method step.1 step.2 seg)
    have HE : Hid (SL = conductL (d.at 0) (d.at 1) (d.at 0) (d.at 1) (numQ d.val.1 d.val.2)⁻¹) := Lib.hid (by rw [HSLE.out, if_pos hkd])
    clear hkd hval
    go_wp2_with fail
    refine HW.out.mono ?_
    rintro e w2 ⟨rfl, h1⟩
    have hP := h1.out.1
    rw [List.nil_append, ← HE.out] at hP
    obtain ⟨A, c, hc, hrow⟩ := hP.out
    have HROW := Lib.hid hrow
    have HGR := Lib.hid hP.grown
    clear hrow hP h1 p0 p1 p2 p3 p4 r0 r1 r2 r3
    go_wp2_with fail
    go_ret2
    exact ⟨A, c, rfl, HROW.out, gb_trans HGA.out HGR.out⟩
  · have hval : NumOK d.val.1 d.val.2 := by
      have h := HKB.out
      unfold kindB at h
      rw [if_pos (.inl hkd)] at h
      simp only [Bool.and_eq_true, valZ, decide_eq_true_eq] at h
      exact .inl h.1.1.2
    have HW := Lib.hid (write_v W0 w1 pb d An cn Av cv As cs Ag cg Am cm BR k [] HPEN.out HD1.out h2n hkd hval (by simp) (by omega) (by simpa using hbl) (by simpa using HJ.out) ⟨by omega, by omega⟩ A1 f.nodes.length c1 A2 f.devs.length c2 f.step.1 f.step.2 f.method mode method step.1 step.2 seg)
    have HE : Hid (SL = outL (d.at 0) (d.at 1) (BR.getD k 0) ++ (acrossL (d.at 0) (d.at 1) (BR.getD k 0) ++ put1 3 (BR.getD k 0) k 1)) := Lib.hid (by rw [HSLE.out, if_neg (by omega)])
    clear hkd hval
    go_wp2_with fail
    refine HW.out.mono ?_
    rintro e w2 ⟨rfl, h1⟩
    have hP := h1.out.1
    rw [List.nil_append, Int.toNat_natCast, ← HE.out] at hP
    obtain ⟨A, c, hc, hrow⟩ := hP.out
    have HROW := Lib.hid hrow
    have HGR := Lib.hid hP.grown
    clear hrow hP h1 p0 p1 p2 p3 p4 r0 r1 r2 r3
    go_wp2_with fail
    go_ret2
    exact ⟨A, c, rfl, HROW.out, gb_trans HGA.out HGR.out⟩

end Go.Proofs.YtmfmfpmkgmkgiaaGreatDoor

namespace Go.Proofs.YtmfmfpmkgmkgiaaGreatDoor
open Go.RowKit
open Rat
def StampP.cellAt (x : StampP) : Nat := x.row.toNat * 5 + x.kind.toNat
def hitB (i : Nat) (c : Int) (x : StampP) : Bool := decide (x.cellAt = i) && decide (x.col = c)
def hasQ (L : List StampP) (i : Nat) (c : Int) : Bool := L.any (hitB i c)
def accQ : List StampP → Nat → Int → Rat
  | [], _, _ => 0
  | x :: L, i, c => (if hitB i c x then x.val else 0) + accQ L i c
theorem hasQ_snoc (L : List StampP) (x : StampP) (i : Nat) (c : Int) : hasQ (L ++ [x]) i c = (hasQ L i c || hitB i c x) := by simp [hasQ]
theorem accQ_append (L M : List StampP) (i : Nat) (c : Int) : accQ (L ++ M) i c = accQ L i c + accQ M i c := by
  induction L with
  | nil => simp [accQ, Rat.zero_add]
  | cons x L ih => simp only [List.cons_append, accQ, ih, Rat.add_assoc]
theorem accQ_snoc (L : List StampP) (x : StampP) (i : Nat) (c : Int) : accQ (L ++ [x]) i c = accQ L i c + (if hitB i c x then x.val else 0) := by
  rw [accQ_append]; simp [accQ, Rat.add_zero]
theorem accQ_none {L : List StampP} {i : Nat} {c : Int} (h : hasQ L i c = false) : accQ L i c = 0 := by
  induction L with
  | nil => rfl
  | cons x L ih =>
    simp only [hasQ, List.any_cons, Bool.or_eq_false_iff] at h
    rw [accQ, h.1, ih h.2]; simp [Rat.add_zero]
theorem LimQ.add2 {p q : Rat} {a b : Nat} (hp : LimQ p a) (hq : LimQ q b) : LimQ (p + q) (a + b + 1) := by
  rw [add_divInt]
  refine LimQ.divInt (den_mul_ne p q) (lim_add ?_ ?_) ?_
  · have := lim_mul p.num q.den; have := hp.1; have := hq.2; omega
  · have := lim_mul q.num p.den; have := hq.1; have := hp.2; omega
  · have := lim_mul p.den q.den; have := hp.2; have := hq.2; omega
theorem LimQ.zero (k : Nat) (h : 1 ≤ k) : LimQ 0 k := ⟨by have : lim (0 : Rat).num = 0 := rfl; omega, by have : lim ((0 : Rat).den : Int) = 1 := rfl; omega⟩
def LimL (L : List StampP) (K : Nat) : Prop := ∀ x ∈ L, LimQ x.val K
theorem accQ_lim {L : List StampP} {K : Nat} (h : LimL L K) (i : Nat) (c : Int) : LimQ (accQ L i c) (L.length * (K + 2) + 1) := by
  induction L with
  | nil => exact LimQ.zero _ (by simp)
  | cons x L ih =>
    have h1 := ih (fun y hy => h y (.tail _ hy))
    rw [accQ]
    have h2 : LimQ (if hitB i c x then x.val else 0) (K + 1) := by
      split
      · exact (h x (.head _)).mono (by omega)
      · exact LimQ.zero _ (by omega)
    exact (h2.add2 h1).mono (by rw [List.length_cons, Nat.succ_mul]; omega)
def densL : List StampP → Nat
  | [] => 1
  | x :: L => x.val.den * densL L
theorem densL_pos (L : List StampP) : 0 < densL L := by
  induction L with
  | nil => decide
  | cons x L ih => exact Nat.mul_pos x.val.den_pos ih
theorem den_add_dvd (p q : Rat) : (p + q).den ∣ p.den * q.den := by
  rw [Rat.add_def, Rat.normalize_eq]
  exact Nat.div_dvd_of_dvd (Nat.gcd_dvd_right _ _)
theorem accQ_den (L : List StampP) (i : Nat) (c : Int) : (accQ L i c).den ∣ densL L := by
  induction L with
  | nil => exact Nat.dvd_refl _
  | cons x L ih =>
    rw [accQ, densL]
    refine Nat.dvd_trans (den_add_dvd _ _) (Nat.mul_dvd_mul ?_ ih)
    split
    · exact Nat.dvd_refl _
    · exact Nat.one_dvd _
theorem densL_lim {L : List StampP} {K : Nat} (h : LimL L K) : lim (densL L : Int) ≤ L.length * K + 1 := by
  induction L with
  | nil => simp only [densL]; have : lim ((1 : Nat) : Int) = 1 := rfl; omega
  | cons x L ih =>
    have h1 := ih (fun y hy => h y (.tail _ hy))
    rw [densL, Int.natCast_mul]
    have h2 := lim_mul (x.val.den : Int) (densL L : Int)
    have h3 := (h x (.head _)).2
    rw [List.length_cons, Nat.succ_mul]
    omega
theorem lim_dvd {a b : Nat} (h : a ∣ b) (hb : 0 < b) : lim (a : Int) ≤ lim (b : Int) := lim_natAbs (by simp; exact Nat.le_of_dvd hb h)
def IsMult (L : List StampP) (r : Nat) (m : Nat) : Prop :=
  (∀ k c, k < 5 → hasQ L (r * 5 + k) c = true → (accQ L (r * 5 + k) c).den ∣ m) ∧ ∀ m', (∀ k c, k < 5 → hasQ L (r * 5 + k) c = true → (accQ L (r * 5 + k) c).den ∣ m') → m ∣ m'
theorem IsMult.unique {L : List StampP} {r m m' : Nat} (h : IsMult L r m) (h' : IsMult L r m') : m = m' := Nat.dvd_antisymm (h.2 m' h'.1) (h'.2 m h.1)
theorem IsMult.dvd {L : List StampP} {r m : Nat} (h : IsMult L r m) : m ∣ densL L := h.2 _ fun _ _ _ _ => accQ_den _ _ _
theorem IsMult.pos {L : List StampP} {r m : Nat} (h : IsMult L r m) : 0 < m := Nat.pos_of_dvd_of_pos h.dvd (densL_pos L)
def multOver (L : List StampP) (r : Nat) : List StampP → Nat
  | [] => 1
  | x :: M => if x.cellAt / 5 = r then Nat.lcm (accQ L x.cellAt x.col).den (multOver L r M) else multOver L r M
def multL (L : List StampP) (r : Nat) : Nat := multOver L r L
theorem hitB_iff {i : Nat} {c : Int} {x : StampP} : hitB i c x = true ↔ x.cellAt = i ∧ x.col = c := by simp [hitB]
theorem multL_is (L : List StampP) (r : Nat) : IsMult L r (multL L r) := by
  have key : ∀ M : List StampP, (∀ x ∈ M, x.cellAt / 5 = r → (accQ L x.cellAt x.col).den ∣ multOver L r M) ∧ ∀ m', (∀ x ∈ M, x.cellAt / 5 = r → (accQ L x.cellAt x.col).den ∣ m') → multOver L r M ∣ m' := by
    intro M
    induction M with
    | nil => exact ⟨by simp, fun m' _ => Nat.one_dvd _⟩
    | cons y M ih =>
      rw [multOver]
      constructor
      · intro x hx hr
        rcases List.mem_cons.1 hx with rfl | hx
        · rw [if_pos hr]; exact Nat.dvd_lcm_left _ _
        · have := ih.1 x hx hr
          split
          · exact Nat.dvd_trans this (Nat.dvd_lcm_right _ _)
          · exact this
      · intro m' h
        have h2 := ih.2 m' (fun x hx => h x (.tail _ hx))
        split
        · rename_i hr; exact Nat.lcm_dvd (h y (.head _) hr) h2
        · exact h2
  obtain ⟨k1, k2⟩ := key L
  constructor
  · intro k c hk hh
    obtain ⟨x, hx, he⟩ := List.any_eq_true.1 hh
    obtain ⟨e1, e2⟩ := hitB_iff.1 he
    have := k1 x hx (by rw [e1]; omega)
    rw [e1, e2] at this
    exact this
  · intro m' h
    refine k2 m' fun x hx hr => ?_
    have e : x.cellAt = r * 5 + x.cellAt % 5 := by omega
    have h2 := h (x.cellAt % 5) x.col (by omega) (by rw [hasQ, List.any_eq_true]; exact ⟨x, hx, hitB_iff.2 ⟨e, rfl⟩⟩)
    rw [e]
    exact h2
theorem multL_lim {L : List StampP} {K : Nat} (h : LimL L K) (r : Nat) : lim (multL L r : Int) ≤ L.length * K + 1 :=
  Nat.le_trans (lim_dvd (multL_is L r).dvd (densL_pos L)) (densL_lim h)

/-! ### cells -/
def wholeZ (q : Rat) (m : Nat) : Int := (q.num * (m : Int)).tdiv q.den
def Rising (l : List Int) : Prop := l.Pairwise (· < ·)
def insC (c : Int) : List Int → List Int
  | [] => [c]
  | d :: l => if c < d then c :: d :: l else if c = d then d :: l else d :: insC c l
theorem mem_insC {c x : Int} : ∀ {l : List Int}, x ∈ insC c l ↔ x = c ∨ x ∈ l
  | [] => by simp [insC]
  | d :: l => by
    unfold insC
    split
    · simp
    · split
      · rename_i h; subst h; simp
      · simp only [List.mem_cons, mem_insC (l := l)]
        constructor
        · rintro (h | h | h)
          · exact .inr (.inl h)
          · exact .inl h
          · exact .inr (.inr h)
        · rintro (h | h | h)
          · exact .inr (.inl h)
          · exact .inl h
          · exact .inr (.inr h)
theorem rising_insC {c : Int} : ∀ {l : List Int}, Rising l → Rising (insC c l)
  | [], _ => by simp [insC, Rising]
  | d :: l, h => by
    have h1 := List.pairwise_cons.1 h
    unfold insC
    split
    · rename_i hc
      refine List.pairwise_cons.2 ⟨fun x hx => ?_, h⟩
      rcases List.mem_cons.1 hx with rfl | hx
      · exact hc
      · have := h1.1 x hx; omega
    · split
      · exact h
      · rename_i hc hd
        refine List.pairwise_cons.2 ⟨fun x hx => ?_, rising_insC h1.2⟩
        rcases mem_insC.1 hx with rfl | hx
        · omega
        · exact h1.1 x hx
theorem rising_unique : ∀ {l m : List Int}, Rising l → Rising m → (∀ c, c ∈ l ↔ c ∈ m) → l = m
  | [], [], _, _, _ => rfl
  | [], d :: m, _, _, h => by have := (h d).2 (.head _); simp at this
  | d :: l, [], _, _, h => by have := (h d).1 (.head _); simp at this
  | a :: l, b :: m, hl, hm, h => by
    have h1 := List.pairwise_cons.1 hl
    have h2 := List.pairwise_cons.1 hm
    have e : a = b := by
      rcases List.mem_cons.1 ((h a).1 (.head _)) with h3 | h3
      · exact h3
      · rcases List.mem_cons.1 ((h b).2 (.head _)) with h4 | h4
        · exact h4.symm
        · have := h1.1 b h4; have := h2.1 a h3; omega
    subst e
    rw [rising_unique h1.2 h2.2 fun c => ?_]
    constructor
    · intro hc
      rcases List.mem_cons.1 ((h c).1 (.tail _ hc)) with h3 | h3
      · have := h1.1 c hc; omega
      · exact h3
    · intro hc
      rcases List.mem_cons.1 ((h c).2 (.tail _ hc)) with h3 | h3
      · have := h2.1 c hc; omega
      · exact h3
def colsOf : List StampP → Nat → List Int
  | [], _ => []
  | x :: L, i => if x.cellAt = i then insC x.col (colsOf L i) else colsOf L i
theorem rising_cols (L : List StampP) (i : Nat) : Rising (colsOf L i) := by
  induction L with
  | nil => exact List.Pairwise.nil
  | cons x L ih =>
    rw [colsOf]
    split
    · exact rising_insC ih
    · exact ih
theorem mem_cols (L : List StampP) (i : Nat) (c : Int) : c ∈ colsOf L i ↔ hasQ L i c = true := by
  induction L with
  | nil => simp [colsOf, hasQ]
  | cons x L ih =>
    rw [colsOf, hasQ, List.any_cons, Bool.or_eq_true, hitB_iff]
    rw [hasQ] at ih
    split
    · rename_i h
      rw [mem_insC, ih]
      constructor
      · rintro (h1 | h1)
        · exact .inl ⟨h, h1.symm⟩
        · exact .inr h1
      · rintro (h1 | h1)
        · exact .inl h1.2.symm
        · exact .inr h1
    · rename_i h
      rw [ih]
      constructor
      · exact .inr
      · rintro (h1 | h1)
        · exact absurd h1.1 h
        · exact h1
theorem cols_of {L : List StampP} {i : Nat} {l : List Int} (hl : Rising l) (h : ∀ c, c ∈ l ↔ hasQ L i c = true) : l = colsOf L i :=
  rising_unique hl (rising_cols L i) fun c => (h c).trans (mem_cols L i c).symm
def cellOf (L : List StampP) (i m : Nat) (c : Int) : Option (Int × Int) := if accQ L i c = 0 then none else some (c, wholeZ (accQ L i c) m)
def cellsL (L : List StampP) (i m : Nat) : List (Int × Int) := (colsOf L i).filterMap (cellOf L i m)

end Go.Proofs.YtmfmfpmkgmkgiaaGreatDoor
