/- Contracts of the program's functions, and what they rest on: AwC LawB RefB RefE RefL. -/
import Derived.Test.YtmfmfpmkgmkgiaaGreatDoorMaw
import Derived.Test.YtmfmfpmkgmkgiaaGreatDoorMao
import Derived.Test.YtmfmfpmkgmkgiaaGreatDoorMan
import Derived.Test.YtmfmfpmkgmkgiaaGreatDoorMam
import Derived.Test.YtmfmfpmkgmkgiaaGreatDoorMap
import Derived.Test.YtmfmfpmkgmkgiaaGreatDoorMaq
set_option linter.unusedVariables false
set_option linter.unusedSimpArgs false
namespace Go.Proofs.YtmfmfpmkgmkgiaaGreatDoor
open Go.RowKit Go.Maps

theorem dm2 : digs (-2) = [2] := by decide +kernel
theorem row0_row (W : World) (T : TypeId) : SysRow (W.alloc (.cells #[.bool false, .slice none 0 0, .slice none 0 0, .slice none 0 0, .slice none 0 0, .bool false, .slice none 0 0] T)) (.slice (some ⟨W.heap.size, 0, none⟩) 1 1) [row0] := by
  have hb := Blk.new W #[.bool false, .slice none 0 0, .slice none 0 0, .slice none 0 0, .slice none 0 0, .bool false, .slice none 0 0] T
  have hc : ∀ w, CellRow w (.slice none 0 0) [] := fun w => ⟨none, 0, rfl, by simp, by omega, fun h => by simp at h⟩
  refine ⟨_, _, rfl, by simp, by simp, fun _ => ⟨W.heap.size, 0, rfl, fun i hi => ?_⟩⟩
  obtain rfl : i = 0 := by simp at hi; omega
  refine ⟨_, ⟨.slice none 0 0, .slice none 0 0, .slice none 0 0, .slice none 0 0, .slice none 0 0, rfl, Nums.nil _, hc _, hc _, hc _, Nums.nil _⟩, fun j hj => ?_⟩
  rw [show 0 + 0 * 7 + j = j by omega, hb.cell]
  rcases j with _ | _ | _ | _ | _ | _ | _ | j <;> first | rfl | omega
set_option maxRecDepth 100000 in
set_option maxHeartbeats 40000000 in
theorem awake_calls (w : World) (hG : GlobOK w) :
    Calls Tryz.prog 10 #[] w fun e w' => e = .returned (.bool true) ∧ w.grownBy w' none := by
  have HG := Lib.hid hG
  clear hG
  go_enter Tryz.func10, Tryz.ntmps10
  go_wp2_with fail
  refine (circuit_calls w).mono ?_
  rintro e w1 ⟨A1, A2, rfl, hf, hg1⟩
  have HC := Lib.hid (circBuild_calls w1 A1 A2 hf (HG.out.more hg1))
  have HG1 := Lib.hid hg1
  clear hf hg1
  go_wp2_with fail
  refine HC.out.mono ?_
  rintro e w2 ⟨A, c, rfl, hs, hg2⟩
  have HS := Lib.hid hs
  have HG2 := Lib.hid (gb_trans HG1.out hg2)
  clear hs hg2 HC
  have ga := gb_alloc w2 (.cells #[.slice A 3 c] 38) none
  have hB := Blk.new w2 #[.slice A 3 c] 38
  have HB := Lib.hid hB
  have HS := Lib.hid (HS.out.more ga)
  have HG3 := Lib.hid (gb_trans HG2.out ga)
  clear ga hB
  go_wp2_with fail
  generalize w2.alloc (.cells #[.slice A 3 c] 38) = w3 at HB HS HG3 ⊢
  generalize w2.heap.size = sb at HB ⊢
  refine (circuit_calls w3).mono ?_
  rintro e w4 ⟨B1, B2, rfl, hf, hg4⟩
  have HG4 := Lib.hid (gb_trans HG3.out hg4)
  have HC := Lib.hid (circSources_calls w4 B1 B2 hf (HG.out.more HG4.out))
  have HB4 := Lib.hid (HB.out.more hg4)
  have HS4 := Lib.hid (HS.out.more hg4)
  clear hf hg4 HB HS
  go_wp2_with fail
  refine HC.out.mono ?_
  rintro e w5 ⟨v5, rfl, hv5, hg5⟩
  obtain ⟨A5, c5, rfl, _⟩ := id hv5.ctor
  have HV5 := Lib.hid hv5
  have HB5 := Lib.hid (HB4.out.more hg5)
  have HS5 := Lib.hid (HS4.out.more hg5)
  have HG5 := Lib.hid (gb_trans HG4.out hg5)
  have c0 := HB5.out.cell 0
  clear hv5 hg5 HB4 HS4 HC
  have ga := gb_alloc w5 (.cells #[.int .i64 0, .int .i64 0, .int .i64 0] 2) none
  have hp : IntRow (w5.alloc (.cells #[.int .i64 0, .int .i64 0, .int .i64 0] 2)) (.slice (some ⟨w5.heap.size, 0, none⟩) 3 3) [0, 0, 0] := blk_ints (l := [0, 0, 0]) (Blk.new w5 #[.int .i64 0, .int .i64 0, .int .i64 0] 2) (by simp) (by simp [I64])
  have hc := Rhs_calls (w5.alloc (.cells #[.int .i64 0, .int .i64 0, .int .i64 0] 2)) (.slice A 3 c) _ (.slice A5 3 c5) circV [0, 0, 0] [5000000000, 0, 0] (HS5.out.more ga) hp (HV5.out.more ga)
  rw [circ_rhs, circ_rhsV.1] at hc
  have HC := Lib.hid hc
  have HB6 := Lib.hid (HB5.out.more ga)
  have HS6 := Lib.hid (HS5.out.more ga)
  have HG6 := Lib.hid (gb_trans HG5.out ga)
  clear hc hp ga HB5 HS5
  go_wp2_with fail
  refine HC.out.mono ?_
  rintro e w7 ⟨A7, c7, rfl, hz, hg7⟩
  have HZ := Lib.hid hz
  have HB7 := Lib.hid (HB6.out.more hg7)
  have HS7 := Lib.hid (HS6.out.more hg7)
  have HG7 := Lib.hid (gb_trans HG6.out hg7)
  have c0 := HB7.out.cell 0
  clear hz hg7 HB6 HS6 HC
  have hlen : (3 : Nat) = circV.length := circ_len.symm
  obtain ⟨b, o, Am, nm, cm, Aa, ca, Ah, ch, As, cs, Ak, nk, ck, rfl, q0, q1, q2, q3, q4, q5, q6, rm, ra, rh, rs, rk⟩ := HS7.out.at (i := 1) (by rw [← hlen]; omega)
  rw [circ_a.1] at q2
  have QS := Lib.hid (And.intro q0 (And.intro q1 q2))
  have RM := Lib.hid rm
  have RA := Lib.hid ra
  clear q0 q1 q3 q4 q5 q6 rm ra rh rs rk hlen
  simp only [Nat.one_mul] at q2
  go_upto_region 6 with (fail)
  have RA2 : CellRow w7 (.slice Aa 2 ca) (circV.getD 1 row0).a := by have := RA.out; rwa [circ_a.1] at this
  obtain ⟨b3, o3, A3, n3, k3, hA3, _, x0, x1, x2, xn⟩ := RA2.at (i := 0) (by rw [circ_a.1]; omega)
  obtain ⟨b4, o4, A4, n4, k4, hA4, _, y0, y1, y2, yn⟩ := RA2.at (i := 1) (by rw [circ_a.1]; omega)
  obtain ⟨b6, A6, n6, k6, hA6, z0, z1, zn⟩ := HZ.out.at (i := 2) (by rw [circ_rhsV.1]; omega)
  subst hA3
  injection hA4 with hA4
  injection hA4 with e1 e2
  subst e1 e2
  subst hA6
  obtain ⟨q0, q1, q2⟩ := QS.out
  rw [circ_m.1] at q0
  rw [circ_a.2.1] at x1
  rw [circ_a.2.2.2] at y0
  simp only [Nat.zero_mul, Nat.one_mul, Nat.add_zero, Nat.reduceMul, Nat.reduceAdd] at q0 q1 q2 x0 x1 x2 y0 y1 y2 z0 z1
  rw [circ_rhsV.2] at z0 zn
  rw [circ_a.2.2.1] at xn
  have rm := RM.out
  rw [circ_m.2] at rm
  simp at z0
  have HK : ∀ W, w7.grownBy W none → W.cell? ⟨sb, 0, none⟩ = some (.slice (some ⟨b, o, none⟩) 3 c) ∧ W.cell? ⟨b, o + 7, none⟩ = some (.bool false) ∧ W.cell? ⟨b, o + 7 + 1, none⟩ = some (.slice Am nm cm) ∧ W.cell? ⟨b, o + 7 + 2, none⟩ = some (.slice (some ⟨b3, o3, none⟩) 2 ca) ∧ W.cell? ⟨b3, o3 + 1, none⟩ = some (.bool true) ∧ W.cell? ⟨b3, o3 + 2, none⟩ = some (.slice A3 n3 k3) ∧ W.cell? ⟨b3, o3 + 3, none⟩ = some (.int .i64 1) ∧ W.cell? ⟨b6, 4, none⟩ = some (.bool false) ∧ W.cell? ⟨b6, 5, none⟩ = some (.slice A6 n6 k6) := fun W h => ⟨gb_cell h c0 (by simp), gb_cell h q0 (by simp), gb_cell h q1 (by simp), gb_cell h q2 (by simp), gb_cell h x1 (by simp), gb_cell h x2 (by simp), gb_cell h y0 (by simp), gb_cell h z0 (by simp), gb_cell h z1 (by simp)⟩
  have HKK := Lib.hid HK
  have RMH := Lib.hid rm
  have XNH := Lib.hid xn
  have ZNH := Lib.hid zn
  clear HK rm xn yn zn HZ HB7 HS7 RM RA RA2 QS
  go_region_held3 (fun W => W.cell? ⟨sb, 0, none⟩ = some (.slice (some ⟨b, o, none⟩) 3 c) ∧ W.cell? ⟨b, o + 7, none⟩ = some (.bool false) ∧ W.cell? ⟨b, o + 7 + 1, none⟩ = some (.slice Am nm cm) ∧ W.cell? ⟨b, o + 7 + 2, none⟩ = some (.slice (some ⟨b3, o3, none⟩) 2 ca) ∧ W.cell? ⟨b3, o3 + 1, none⟩ = some (.bool true) ∧ W.cell? ⟨b3, o3 + 2, none⟩ = some (.slice A3 n3 k3) ∧ W.cell? ⟨b3, o3 + 3, none⟩ = some (.int .i64 1) ∧ W.cell? ⟨b6, 4, none⟩ = some (.bool false) ∧ W.cell? ⟨b6, 5, none⟩ = some (.slice A6 n6 k6)) ((refine HKK.out _ ?_; (focus ((repeat (first | assumption | exact gb_refl _ _ | exact gb_drew _ _ | exact gb_alloc _ _ _ | refine gb_trans ?_ (gb_alloc _ _ _) | refine gb_trans ?_ (gb_drew _ _) | refine gb_trans ?_ (by assumption))); done))))
    (first
    | (go_at_call_of 32 (Value.int .i64 2000); refine (LOf_calls _ 2000 (by omega) (by omega)).mono ?_; rintro e w8 ⟨s1, rfl, hn1, hf1, hg8⟩; rw [show digs 2000 = [2000] by decide +kernel] at hn1)
    | (go_at_call_of 31 (Value.agg #[.bool false, .slice Am nm cm]); refine (same_calls _ false _ _ [2000] (RMH.out.more (by (focus ((repeat (first | assumption | exact gb_refl _ _ | exact gb_drew _ _ | exact gb_alloc _ _ _ | refine gb_trans ?_ (gb_alloc _ _ _) | refine gb_trans ?_ (gb_drew _ _) | refine gb_trans ?_ (by assumption))); done)))) hn1).mono ?_; rintro e w9 ⟨rfl, hg9⟩)
    | (go_at_call_of 32 (Value.int .i64 5000000000); refine (LOf_calls _ 5000000000 (by omega) (by omega)).mono ?_; rintro e w12 ⟨s3, rfl, hn3, hf3, hg12⟩)
    | (go_at_call 32; refine (LOf_calls _ (-2) (by decide) (by decide)).mono ?_; rintro e w10 ⟨s2, rfl, hn2, hf2, hg10⟩; rw [dm2] at hn2)
    | (go_at_call_of 31 (Value.agg #[.bool true, .slice A3 n3 k3]); refine (same_calls _ true _ _ [2] (XNH.out.more (by (focus ((repeat (first | assumption | exact gb_refl _ _ | exact gb_drew _ _ | exact gb_alloc _ _ _ | refine gb_trans ?_ (gb_alloc _ _ _) | refine gb_trans ?_ (gb_drew _ _) | refine gb_trans ?_ (by assumption))); done)))) hn2).mono ?_; rintro e w11 ⟨rfl, hg11⟩)
    | (go_at_call_of 31 (Value.agg #[.bool false, .slice A6 n6 k6]); refine (same_calls _ false _ _ (digs 5000000000) (ZNH.out.more (by (focus ((repeat (first | assumption | exact gb_refl _ _ | exact gb_drew _ _ | exact gb_alloc _ _ _ | refine gb_trans ?_ (gb_alloc _ _ _) | refine gb_trans ?_ (gb_drew _ _) | refine gb_trans ?_ (by assumption))); done)))) hn3).mono ?_; rintro e w13 ⟨rfl, hg13⟩)
    | (go_at_call 24; refine (SysCheck_calls _ _ [row0] (row0_row _ _)).mono ?_; rintro e w14 ⟨rfl, hg14⟩; rw [circ_zero])
    | (fail))
  all_goals
    go_wp2_with fail
    go_ret
    exact ⟨rfl, gb_trans HG7.out (by (focus ((repeat (first | assumption | exact gb_refl _ _ | exact gb_drew _ _ | exact gb_alloc _ _ _ | refine gb_trans ?_ (gb_alloc _ _ _) | refine gb_trans ?_ (gb_drew _ _) | refine gb_trans ?_ (by assumption))); done)))⟩

end Go.Proofs.YtmfmfpmkgmkgiaaGreatDoor

namespace Go.Proofs.YtmfmfpmkgmkgiaaGreatDoor
open Go.RowKit Go.Maps

theorem w64_in (x : Int) : I64 (wrap64 x) := by
  unfold I64 wrap64
  omega

set_option maxRecDepth 100000 in
set_option maxHeartbeats 40000000 in
theorem heavy_calls (w : World) (v : Value) (l : List RowP) (hl : SysRow w v l) :
    Calls Tryz.prog 20 #[.agg #[v]] w fun e w' => ∃ b, e = .returned (.bool b) ∧ w.grownBy w' none := by
  obtain ⟨A, c, rfl, h1, h2⟩ := hl.ctor
  have gw := gb_alloc w (.cells #[.slice A l.length c] 38) none
  have hB := Blk.new w #[.slice A l.length c] 38
  have c0 : (w.alloc (.cells #[.slice A l.length c] 38)).cell? ⟨w.heap.size, 0, none⟩ = some (.slice A l.length c) := hB.cell 0
  have HL := Lib.hid (hl.more gw)
  have HGW := Lib.hid gw
  clear hl hB gw
  go_enter Tryz.func20, Tryz.ntmps20
  go_wp2_with fail
  generalize w.alloc (.cells #[.slice A l.length c] 38) = wa at *
  generalize w.heap.size = s at *
  go_loopw [3, 4] (fun zv i wr => ∃ (k : Nat) (z : Int), k ≤ l.length ∧ i = .int .i64 k ∧ zv = .int .i64 z ∧ I64 z ∧ wa.grownBy wr none) (fun _ i _ => (l.length - intOf i).toNat)
  case atStart => exact ⟨0, l.length, by omega, rfl, rfl, ⟨by omega, by omega⟩, gb_refl _ _⟩
  case round =>
    obtain ⟨k, z, hk, rfl, rfl, hz, hg⟩ := hrel
    have cw := gb_cell hg c0 (by simp)
    by_cases hlt : k < l.length
    · by_cases hz4 : z < 4000
      · obtain ⟨b, o, Am, nm, cm, Aa, ca, Ah, ch, As, cs, Ak, nk, ck, rfl, q0, q1, q2, q3, q4, q5, q6, rm, ra, rh, rs, rk⟩ := (HL.out.more hg).at hlt
        generalize hx : l.getD k row0 = r at *
        have ga := gb_alloc wr (.cells #[.bool r.mneg, .slice Am nm cm, .slice Aa r.a.length ca, .slice Ah r.h.length ch, .slice As r.s.length cs, .bool r.kneg, .slice Ak nk ck] 52) none
        have hBX := Blk.new wr #[.bool r.mneg, .slice Am nm cm, .slice Aa r.a.length ca, .slice Ah r.h.length ch, .slice As r.s.length cs, .bool r.kneg, .slice Ak nk ck] 52
        obtain ⟨m0, m1, m2, m3, m4, m5, m6⟩ := hBX.seven
        have HRA := Lib.hid ra
        have HRH := Lib.hid rh
        have HRS := Lib.hid rs
        clear hx rm ra rh rs rk hBX
        go_wp2_with fail
        have HZZ := Lib.hid (w64_in (z + (min 4000 (nm : Int) + min 4000 (nk : Int))))
        have gb2 := gb_alloc (wr.alloc (.cells #[.bool r.mneg, .slice Am nm cm, .slice Aa r.a.length ca, .slice Ah r.h.length ch, .slice As r.s.length cs, .bool r.kneg, .slice Ak nk ck] 52)) (.cells #[.slice Aa r.a.length ca, .slice Ah r.h.length ch, .slice As r.s.length cs] 50) none
        have hBM := Blk.new (wr.alloc (.cells #[.bool r.mneg, .slice Am nm cm, .slice Aa r.a.length ca, .slice Ah r.h.length ch, .slice As r.s.length cs, .bool r.kneg, .slice Ak nk ck] 52)) #[.slice Aa r.a.length ca, .slice Ah r.h.length ch, .slice As r.s.length cs] 50
        rw [World.size_alloc] at hBM
        have HBM := Lib.hid hBM
        have HGB := Lib.hid (gb_trans hg (gb_trans ga gb2))
        have HRA := Lib.hid (HRA.out.more (gb_trans ga gb2))
        have HRH := Lib.hid (HRH.out.more (gb_trans ga gb2))
        have HRS := Lib.hid (HRS.out.more (gb_trans ga gb2))
        have HLT := Lib.hid hlt
        have HZ := Lib.hid hz
        clear q0 q1 q2 q3 q4 q5 q6 m0 m1 m2 m3 m4 m5 m6 hBM gb2 ga hg hz
        generalize (wr.alloc (.cells #[.bool r.mneg, .slice Am nm cm, .slice Aa r.a.length ca, .slice Ah r.h.length ch, .slice As r.s.length cs, .bool r.kneg, .slice Ak nk ck] 52)).alloc (.cells #[.slice Aa r.a.length ca, .slice Ah r.h.length ch, .slice As r.s.length cs] 50) = wb at HBM HGB HRA HRH HRS ⊢
        generalize wr.heap.size = sb at HBM ⊢
        generalize wrap64 (z + (min 4000 (nm : Int) + min 4000 (nk : Int))) = z1 at HZZ ⊢
        go_loopw [3, 49] (fun zv i wx => ∃ (j : Nat) (z : Int), j ≤ 3 ∧ i = .int .i64 j ∧ zv = .int .i64 z ∧ I64 z ∧ wb.grownBy wx none) (fun _ i _ => (3 - intOf i).toNat)
        case atStart => exact ⟨0, z1, by omega, rfl, rfl, HZZ.out, gb_refl _ _⟩
        case round =>
          clear cw hz4
          obtain ⟨j, z, hj, rfl, rfl, hz, hq⟩ := hrel
          have HZ2 := Lib.hid hz
          have HQ2 := Lib.hid hq
          have b0 := (HBM.out.more hq).cell 0
          have b1 := (HBM.out.more hq).cell 1
          have b2 := (HBM.out.more hq).cell 2
          simp at b0 b1 b2
          by_cases hj3 : j < 3
          · clear hz hq
            have hjj : j = 0 ∨ j = 1 ∨ j = 2 := by omega
            rcases hjj with rfl | rfl | rfl
            · as_aux_lemma =>
              go_wp2_with fail
              go_loopw [3, 8] (fun zv i wx => ∃ (t : Nat) (z : Int), t ≤ r.a.length ∧ i = .int .i64 t ∧ zv = .int .i64 z ∧ I64 z ∧ wb.grownBy wx none) (fun _ i _ => (r.a.length - intOf i).toNat)
              case atStart => exact ⟨0, z, by omega, rfl, rfl, HZ2.out, HQ2.out⟩
              case round =>
                obtain ⟨t, z, ht, rfl, rfl, hz, hq⟩ := hrel
                by_cases htl : t < r.a.length
                · by_cases hz4 : z < 4000
                  · obtain ⟨bc, oc, A', n', c', rfl, hI, u0, u1, u2, hnc⟩ := (HRA.out.more hq).at htl
                    have HGQ := Lib.hid hq
                    have HTL := Lib.hid htl
                    obtain ⟨_, _, _, hx1, hx2⟩ := HRA.out.ctor
                    have hll : r.a.length ≤ 9223372036854775807 := by omega
                    clear hx1 hx2
                    clear hnc hI u0 u1 hz
                    go_wp2_with fail
                    have htl2 := HTL.out
                    exact ⟨⟨t + 1, _, htl2, by go_num, rfl, w64_in _, HGQ.out⟩, by simp only [intOf]; omega⟩
                  · skip
                    have HGQ := Lib.hid hq
                    have HZ3 := Lib.hid hz
                    go_wp2_with fail
                    exact ⟨⟨0 + 1, z, by omega, by go_num, rfl, HZ3.out, HGQ.out⟩, by simp [intOf] <;> omega⟩
                · skip
                  have HGQ := Lib.hid hq
                  have HZ3 := Lib.hid hz
                  go_wp2_with fail
                  exact ⟨⟨0 + 1, z, by omega, by go_num, rfl, HZ3.out, HGQ.out⟩, by simp [intOf] <;> omega⟩
            · as_aux_lemma =>
              go_wp2_with fail
              go_loopw [3, 8] (fun zv i wx => ∃ (t : Nat) (z : Int), t ≤ r.h.length ∧ i = .int .i64 t ∧ zv = .int .i64 z ∧ I64 z ∧ wb.grownBy wx none) (fun _ i _ => (r.h.length - intOf i).toNat)
              case atStart => exact ⟨0, z, by omega, rfl, rfl, HZ2.out, HQ2.out⟩
              case round =>
                obtain ⟨t, z, ht, rfl, rfl, hz, hq⟩ := hrel
                by_cases htl : t < r.h.length
                · by_cases hz4 : z < 4000
                  · obtain ⟨bc, oc, A', n', c', rfl, hI, u0, u1, u2, hnc⟩ := (HRH.out.more hq).at htl
                    have HGQ := Lib.hid hq
                    have HTL := Lib.hid htl
                    obtain ⟨_, _, _, hx1, hx2⟩ := HRH.out.ctor
                    have hll : r.h.length ≤ 9223372036854775807 := by omega
                    clear hx1 hx2
                    clear hnc hI u0 u1 hz
                    go_wp2_with fail
                    have htl2 := HTL.out
                    exact ⟨⟨t + 1, _, htl2, by go_num, rfl, w64_in _, HGQ.out⟩, by simp only [intOf]; omega⟩
                  · skip
                    have HGQ := Lib.hid hq
                    have HZ3 := Lib.hid hz
                    go_wp2_with fail
                    exact ⟨⟨1 + 1, z, by omega, by go_num, rfl, HZ3.out, HGQ.out⟩, by simp [intOf] <;> omega⟩
                · skip
                  have HGQ := Lib.hid hq
                  have HZ3 := Lib.hid hz
                  go_wp2_with fail
                  exact ⟨⟨1 + 1, z, by omega, by go_num, rfl, HZ3.out, HGQ.out⟩, by simp [intOf] <;> omega⟩
            · as_aux_lemma =>
              go_wp2_with fail
              go_loopw [3, 8] (fun zv i wx => ∃ (t : Nat) (z : Int), t ≤ r.s.length ∧ i = .int .i64 t ∧ zv = .int .i64 z ∧ I64 z ∧ wb.grownBy wx none) (fun _ i _ => (r.s.length - intOf i).toNat)
              case atStart => exact ⟨0, z, by omega, rfl, rfl, HZ2.out, HQ2.out⟩
              case round =>
                obtain ⟨t, z, ht, rfl, rfl, hz, hq⟩ := hrel
                by_cases htl : t < r.s.length
                · by_cases hz4 : z < 4000
                  · obtain ⟨bc, oc, A', n', c', rfl, hI, u0, u1, u2, hnc⟩ := (HRS.out.more hq).at htl
                    have HGQ := Lib.hid hq
                    have HTL := Lib.hid htl
                    obtain ⟨_, _, _, hx1, hx2⟩ := HRS.out.ctor
                    have hll : r.s.length ≤ 9223372036854775807 := by omega
                    clear hx1 hx2
                    clear hnc hI u0 u1 hz
                    go_wp2_with fail
                    have htl2 := HTL.out
                    exact ⟨⟨t + 1, _, htl2, by go_num, rfl, w64_in _, HGQ.out⟩, by simp only [intOf]; omega⟩
                  · skip
                    have HGQ := Lib.hid hq
                    have HZ3 := Lib.hid hz
                    go_wp2_with fail
                    exact ⟨⟨2 + 1, z, by omega, by go_num, rfl, HZ3.out, HGQ.out⟩, by simp [intOf] <;> omega⟩
                · skip
                  have HGQ := Lib.hid hq
                  have HZ3 := Lib.hid hz
                  go_wp2_with fail
                  exact ⟨⟨2 + 1, z, by omega, by go_num, rfl, HZ3.out, HGQ.out⟩, by simp [intOf] <;> omega⟩
          · obtain rfl : j = 3 := by omega
            clear hz hq
            go_wp2_with fail
            exact ⟨⟨k + 1, z, by have := HLT.out; omega, by go_num, rfl, HZ2.out, gb_trans HGB.out HQ2.out⟩, by have := HLT.out; simp [intOf]; omega⟩
      · go_wp2_with fail
        go_ret
        exact ⟨.inr rfl, gb_trans HGW.out hg⟩
    · go_wp2_with fail
      go_ret
      first | exact ⟨decide (4000 ≤ z), rfl, gb_trans HGW.out hg⟩ | exact ⟨decide ((4000 : Int) ≤ z), by simp, gb_trans HGW.out hg⟩ | exact ⟨rfl, gb_trans HGW.out hg⟩

end Go.Proofs.YtmfmfpmkgmkgiaaGreatDoor

namespace Go.Proofs.YtmfmfpmkgmkgiaaGreatDoor
open Go.RowKit
open Rat

set_option maxRecDepth 100000 in
set_option maxHeartbeats 40000000 in
theorem RcellsRight_calls (w : World) (v : Value) (l : List CellP) (n : Int) (hl : CellRow w v l) :
    Calls Tryz.prog 71 #[v, .int .i64 n] w fun e w' => e = .returned (.bool (decide (cellsOK n l))) ∧ w.grownBy w' none := by
  obtain ⟨A, c, rfl, h1, h2⟩ := hl.ctor
  have HL := Lib.hid hl
  clear hl
  obtain ⟨D, hD⟩ : ∃ D, decide (cellsOK n l) = D := ⟨_, rfl⟩
  rw [hD]
  have HD := Lib.hid hD
  clear hD
  go_enter Tryz.func71, Tryz.ntmps71
  go_wp2_with fail
  go_loopw [5, 6] (fun pv i wr => ∃ (k : Nat) (pc : Int), k ≤ l.length ∧ i = .int .i64 k ∧ pv = .int .i64 pc ∧ Hid (pc = if k = 0 then -1 else (l.getD (k - 1) cell0).col) ∧ w.grownBy wr none ∧ Hid (∀ t, t < k → cellOK n l t)) (fun _ i _ => (l.length - intOf i).toNat)
  case atStart => exact ⟨0, -1, by omega, rfl, rfl, Lib.hid rfl, gb_refl _ _, Lib.hid (fun t ht => by omega)⟩
  case round =>
    obtain ⟨k, pc, hk, rfl, rfl, hpc, hg, hb⟩ := hrel
    by_cases hlt : k < l.length
    · obtain ⟨b, o, A', n', c', rfl, hI, q0, q1, q2, hn⟩ := (HL.out.more hg).at hlt
      have HO0 := fun p p2 h h2 => cellOK_at (n := n) (l := l) (k := k) (p := p) (p2 := p2) h h2
      have hprev : 0 < k → 0 ≤ (l.getD (k - 1) cell0).col := fun h0 => (hb.out (k - 1) (by omega)).1
      have hpc' := hpc.out
      generalize hp : l.getD k cell0 = p at *
      generalize hp2 : l.getD (k - 1) cell0 = p2 at *
      have HO := HO0 _ _ rfl rfl
      obtain ⟨col, neg, limbs⟩ := p
      obtain ⟨col2, neg2, limbs2⟩ := p2
      simp only at q0 q1 q2 hn hprev HO hpc'
      have HO := Lib.hid HO
      have HLT := Lib.hid hlt
      have HG := Lib.hid hg
      have HPC : Hid ((k = 0 → pc = -1) ∧ (0 < k → pc = col2 ∧ 0 ≤ col2)) := Lib.hid ⟨fun h => by rw [hpc', if_pos h], fun h => ⟨by rw [hpc', if_neg (by omega)], hprev h⟩⟩
      have HP := Lib.hid hp
      clear hp hp2 HO0 hprev hpc hpc'
      obtain ⟨A2, c2, hlen, hl1, hl2⟩ := hn.form
      injection hlen with e1 e2 e3
      subst e1 e2 e3
      have hC := RRight_calls wr neg _ limbs hn
      have HC := Lib.hid hC
      have e0 : (0 : Int) ≤ (k : Int) := by omega
      have e1 : (k : Int) < (l.length : Int) := by omega
      have HN := Lib.hid hn
      clear hC hn hg
      by_cases hc1 : col ≤ pc
      · have g1 : decide (col ≤ pc) = true := by rw [decide_eq_true_iff]; exact hc1
        have HC1 := Lib.hid hc1
        clear hc1
        go_wp2_with fail
        go_ret
        exact ⟨ret_bool (by rw [← HD.out]; exact (cells_no HLT.out (fun h => by obtain ⟨a1, a2, a3, a4, a5⟩ := HO.out.1 h; have hpc := HPC.out; have hc1 := HC1.out; rcases Nat.eq_zero_or_pos k with h0 | h0 <;> omega)).symm), HG.out⟩
      have g1 : decide (col ≤ pc) = false := by rw [decide_eq_false_iff_not]; exact hc1
      by_cases hc2 : n ≤ col
      · have g2 : decide (n ≤ col) = true := by rw [decide_eq_true_iff]; exact hc2
        have HC2 := Lib.hid hc2
        clear hc2
        go_wp2_with fail
        go_ret
        exact ⟨ret_bool (by rw [← HD.out]; exact (cells_no HLT.out (fun h => by obtain ⟨a1, a2, a3, a4, a5⟩ := HO.out.1 h; have hpc := HPC.out; have hc2 := HC2.out; omega)).symm), HG.out⟩
      have g2 : decide (n ≤ col) = false := by rw [decide_eq_false_iff_not]; exact hc2
      by_cases hok : IntOK neg limbs
      · have he : decide (IntOK neg limbs) = true := decide_eq_true hok
        rw [he] at HC
        by_cases hem : limbs.length = 0
        · have t : ((limbs.length : Int) == 0) = true := by rw [beq_iff_eq]; omega
          have HNIL := Lib.hid (List.eq_nil_of_length_eq_zero hem)
          clear hem
          go_wp2_with fail
          refine HC.out.mono ?_
          rintro e w9 ⟨rfl, hg9⟩
          have q0 := gb_cell hg9 q0 (by simp)
          have q1 := gb_cell hg9 q1 (by simp)
          have q2 := gb_cell hg9 q2 (by simp)
          have HG9 := Lib.hid hg9
          clear hg9
          go_wp2_with fail
          go_ret
          exact ⟨ret_bool (by rw [← HD.out]; exact (cells_no HLT.out (fun h => by obtain ⟨a1, a2, a3, a4, a5⟩ := HO.out.1 h; have hpc := HPC.out; exact a5 HNIL.out)).symm), gb_trans HG.out HG9.out⟩
        · have t : ((limbs.length : Int) == 0) = false := by rw [beq_eq_false_iff_ne]; omega
          have hne : limbs ≠ [] := fun e => hem (by rw [e]; rfl)
          have HNE := Lib.hid hne
          have HOK := Lib.hid hok
          have HC1 := Lib.hid hc1
          have HC2 := Lib.hid hc2
          clear hem hne hok he hc1 hc2
          go_wp2_with fail
          refine HC.out.mono ?_
          rintro e w9 ⟨rfl, hg9⟩
          have q0 := gb_cell hg9 q0 (by simp)
          have q1 := gb_cell hg9 q1 (by simp)
          have q2 := gb_cell hg9 q2 (by simp)
          have HG9 := Lib.hid hg9
          clear hg9
          go_wp2_with fail
          have HPCC : Hid (col = if k + 1 = 0 then -1 else (l.getD (k + 1 - 1) cell0).col) := Lib.hid (by rw [if_neg (by omega), Nat.add_sub_cancel, HP.out])
          exact ⟨⟨k + 1, col, by omega, by go_num, rfl, HPCC, gb_trans HG.out HG9.out, Lib.hid (fun t ht => by
            by_cases htk : t = k
            · subst htk
              refine HO.out.2 ⟨?_, ?_, fun h => ?_, HOK.out, HNE.out⟩
              · have := HPC.out; have := HC1.out; rcases Nat.eq_zero_or_pos t with h0 | h0 <;> omega
              · have := HC2.out; omega
              · have := HPC.out; have := HC1.out; omega
            · exact hb.out t (by omega))⟩, by simp [intOf]; omega⟩
      · have he : decide (IntOK neg limbs) = false := decide_eq_false hok
        rw [he] at HC
        have HOK := Lib.hid hok
        clear hok he
        go_wp2_with fail
        refine HC.out.mono ?_
        rintro e w9 ⟨rfl, hg9⟩
        have q0 := gb_cell hg9 q0 (by simp)
        have q1 := gb_cell hg9 q1 (by simp)
        have q2 := gb_cell hg9 q2 (by simp)
        have HG9 := Lib.hid hg9
        clear hg9
        go_wp2_with fail
        go_ret
        exact ⟨ret_bool (by rw [← HD.out]; exact (cells_no HLT.out (fun h => by obtain ⟨a1, a2, a3, a4, a5⟩ := HO.out.1 h; have hpc := HPC.out; exact HOK.out a4)).symm), gb_trans HG.out HG9.out⟩
    · obtain rfl : k = l.length := by omega
      go_wp2_with fail
      go_ret
      exact ⟨ret_bool (by rw [← HD.out]; exact (cells_yes hb.out).symm), hg⟩

end Go.Proofs.YtmfmfpmkgmkgiaaGreatDoor

namespace Go.Proofs.YtmfmfpmkgmkgiaaGreatDoor
open Go.RowKit
open Rat

theorem row_pos {neg : Bool} {xs : List Nat} (h : IntOK neg xs) (hb : ∀ x ∈ xs, x < 4294967296) : 0 < sg neg (val 4294967296 xs) ↔ (neg = false ∧ xs ≠ []) := by
  obtain ⟨h1, h2⟩ := h.digs hb
  have h3 := digs_eq_nil (sg neg (val 4294967296 xs))
  rw [h1] at h3
  generalize sg neg (val 4294967296 xs) = z at *
  constructor
  · intro hz
    exact ⟨by rw [← h2]; exact decide_eq_false (by omega), fun e => by have := h3.1 e; omega⟩
  · rintro ⟨hn, hx⟩
    rw [hn] at h2
    have a := of_decide_eq_false h2
    have b : z ≠ 0 := fun e => hx (h3.2 e)
    omega


set_option maxRecDepth 100000 in
set_option maxHeartbeats 40000000 in
theorem RSysCheck_calls (w : World) (v : Value) (l : List RowP) (hl : SysRow w v l) :
    Calls Tryz.prog 25 #[.agg #[v]] w fun e w' => e = .returned (.int .i64 (sysE l)) ∧ w.grownBy w' none := by
  obtain ⟨A, c, rfl, h1, h2⟩ := hl.ctor
  have gw := gb_alloc w (.cells #[.slice A l.length c] 38) none
  have hB := Blk.new w #[.slice A l.length c] 38
  have c0 : (w.alloc (.cells #[.slice A l.length c] 38)).cell? ⟨w.heap.size, 0, none⟩ = some (.slice A l.length c) := hB.cell 0
  obtain ⟨R, hR⟩ : ∃ R, sysE l = R := ⟨_, rfl⟩
  rw [hR]
  have HR := Lib.hid hR
  have HL := Lib.hid (hl.more gw)
  clear hR hl hB
  by_cases h48 : 48 < l.length
  · have HF : Hid (R = 130) := Lib.hid (by rw [← HR.out]; unfold sysE; rw [if_neg]; exact fun h => by have := h.1; omega)
    generalize l.length = n at *
    go_enter Tryz.func25, Tryz.ntmps25
    go_wp2_with fail
    go_ret
    exact ⟨ret_int HF.out.symm, gw⟩
  go_enter Tryz.func25, Tryz.ntmps25
  go_wp2_with fail
  generalize w.alloc (.cells #[.slice A l.length c] 38) = wa at *
  generalize w.heap.size = s at *
  go_loopw [4] (fun i wr => ∃ k : Nat, k ≤ l.length ∧ i = .int .i64 k ∧ wa.grownBy wr none ∧ Hid (∀ t, t < k → rowOK l.length (l.getD t row0))) (fun i _ => (l.length - intOf i).toNat)
  case atStart => exact ⟨0, by omega, rfl, gb_refl _ _, Lib.hid (fun t ht => by omega)⟩
  case round =>
    obtain ⟨k, hk, rfl, hg, hb⟩ := hrel
    by_cases hlt : k < l.length
    · obtain ⟨b, o, Am, nm, cm, Aa, ca, Ah, ch, As, cs, Ak, nk, ck, rfl, q0, q1, q2, q3, q4, q5, q6, rm, ra, rh, rs, rk⟩ := (HL.out.more hg).at hlt
      have cs0 := gb_cell hg c0 (by simp)
      generalize hx : l.getD k row0 = r at *
      have HX := Lib.hid hx
      clear hx
      have ga := gb_alloc wr (.cells #[.bool r.mneg, .slice Am nm cm, .slice Aa r.a.length ca, .slice Ah r.h.length ch, .slice As r.s.length cs, .bool r.kneg, .slice Ak nk ck] 52) none
      have hBX := Blk.new wr #[.bool r.mneg, .slice Am nm cm, .slice Aa r.a.length ca, .slice Ah r.h.length ch, .slice As r.s.length cs, .bool r.kneg, .slice Ak nk ck] 52
      have HBX := Lib.hid hBX
      obtain ⟨p0, p1, p2, p3, p4, p5, p6⟩ := hBX.seven
      have hnm := rm.form
      obtain ⟨A', c', hnm, _, _⟩ := hnm
      injection hnm with e1 hnm e3
      clear e1 e3
      have HNM := Lib.hid hnm
      have HM := Lib.hid (RRight_calls _ r.mneg _ r.mlimbs (rm.more ga))
      have HRK := Lib.hid (rk.more ga)
      have HRM := Lib.hid (rm.more ga)
      have HRA := Lib.hid (ra.more ga)
      have HRH := Lib.hid (rh.more ga)
      have HRS := Lib.hid (rs.more ga)
      have HG := Lib.hid (gb_trans gw (gb_trans hg ga))
      have HG1 := Lib.hid (gb_trans hg ga)
      clear rm rk ra rh rs hnm hBX
      go_wp2_with fail
      refine HM.out.mono ?_
      rintro e w1 ⟨rfl, g1⟩
      clear p0 p1 p2 p3 p4 p5 p6 q0 q1 q2 q3 q4 q5 q6
      obtain ⟨p0, p1, p2, p3, p4, p5, p6⟩ := (HBX.out.more g1).seven
      by_cases hM : IntOK r.mneg r.mlimbs
      case neg =>
        rw [decide_eq_false hM]
        have HMM := Lib.hid hM
        clear hM
        go_wp2_with fail
        go_ret
        exact ⟨ret_int (by rw [← HR.out]; exact (sys_no hlt (by rw [HX.out]; exact fun h => HMM.out h.1)).symm), gb_trans HG.out g1⟩
      rw [decide_eq_true hM]
      have HPOS := Lib.hid (row_pos hM HRM.out.2)
      have HM1 := Lib.hid hM
      have HMT := Lib.hid (MTake_calls w1 r.mneg _ r.mlimbs (HRM.out.more g1) (by have := hM.1; omega))
      clear hM
      go_wp2_with fail
      refine HMT.out.mono ?_
      rintro e wt ⟨nv, rfl, hnz, gt⟩
      have HMS := Lib.hid (MSign_calls wt nv _ hnz)
      clear p0 p1 p2 p3 p4 p5 p6
      have g1t := gb_trans g1 gt
      obtain ⟨p0, p1, p2, p3, p4, p5, p6⟩ := (HBX.out.more g1t).seven
      obtain ⟨nvv, rfl, hnd⟩ := hnz
      clear hnd gt g1
      generalize sg r.mneg (val 4294967296 r.mlimbs) = z at *
      go_wp2_with fail
      refine HMS.out.mono ?_
      rintro e w2 ⟨rfl, g2⟩
      have g1 := gb_trans g1t g2
      clear p0 p1 p2 p3 p4 p5 p6 g2 g1t
      obtain ⟨p0, p1, p2, p3, p4, p5, p6⟩ := (HBX.out.more g1).seven
      by_cases hz : 0 < z
      case neg =>
        have HNP : Hid (¬ (r.mneg = false ∧ r.mlimbs ≠ [])) := Lib.hid (fun h => hz (HPOS.out.2 h))
        by_cases h0 : z = 0
        · rw [if_pos h0]
          clear h0 hz
          go_wp2_with fail
          go_ret
          exact ⟨ret_int (by rw [← HR.out]; exact (sys_no hlt (by rw [HX.out]; exact fun h => HNP.out ⟨h.2.1, h.2.2.1⟩)).symm), gb_trans HG.out g1⟩
        · rw [if_neg h0, if_pos (by omega)]
          clear h0 hz
          go_wp2_with fail
          go_ret
          exact ⟨ret_int (by rw [← HR.out]; exact (sys_no hlt (by rw [HX.out]; exact fun h => HNP.out ⟨h.2.1, h.2.2.1⟩)).symm), gb_trans HG.out g1⟩
      · rw [if_neg (by omega), if_neg (by omega)]
        have HM2 := Lib.hid (HPOS.out.1 hz).1
        have HZ := Lib.hid (HPOS.out.1 hz).2
        clear hz
        have HKC := Lib.hid (RRight_calls w2 r.kneg _ r.klimbs (HRK.out.more g1))
        go_wp2_with fail
        refine HKC.out.mono ?_
        rintro e w3 ⟨rfl, g2⟩
        clear p0 p1 p2 p3 p4 p5 p6
        obtain ⟨p0, p1, p2, p3, p4, p5, p6⟩ := (HBX.out.more (gb_trans g1 g2)).seven
        by_cases hK : IntOK r.kneg r.klimbs
        case neg =>
          rw [decide_eq_false hK]
          have HMM := Lib.hid hK
          clear hK
          go_wp2_with fail
          go_ret
          exact ⟨ret_int (by rw [← HR.out]; exact (sys_no hlt (by rw [HX.out]; exact fun h => HMM.out h.2.2.2.1)).symm), gb_trans HG.out (gb_trans g1 g2)⟩
        rw [decide_eq_true hK]
        have HK := Lib.hid hK
        clear hK
        have g12 := gb_trans g1 g2
        have HCA := Lib.hid (RcellsRight_calls w3 _ r.a l.length (HRA.out.more g12))
        clear g1 g2
        go_wp2_with fail
        refine HCA.out.mono ?_
        rintro e w4 ⟨rfl, g3⟩
        clear p0 p1 p2 p3 p4 p5 p6
        have g13 := gb_trans g12 g3
        obtain ⟨p0, p1, p2, p3, p4, p5, p6⟩ := (HBX.out.more g13).seven
        cases hca : decide (cellsOK l.length r.a) with
        | false =>
          have HMM := Lib.hid (of_decide_eq_false hca)
          clear hca
          go_wp2_with fail
          go_ret
          exact ⟨ret_int (by rw [← HR.out]; exact (sys_no hlt (by rw [HX.out]; exact fun h => HMM.out h.2.2.2.2.1)).symm), gb_trans HG.out g13⟩
        | true =>
          have HA := Lib.hid (of_decide_eq_true hca)
          have HCH := Lib.hid (RcellsRight_calls w4 _ r.h l.length (HRH.out.more g13))
          clear hca g12 g3
          go_wp2_with fail
          refine HCH.out.mono ?_
          rintro e w5 ⟨rfl, g4⟩
          clear p0 p1 p2 p3 p4 p5 p6
          have g14 := gb_trans g13 g4
          obtain ⟨p0, p1, p2, p3, p4, p5, p6⟩ := (HBX.out.more g14).seven
          cases hch : decide (cellsOK l.length r.h) with
          | false =>
            have HMM := Lib.hid (of_decide_eq_false hch)
            clear hch
            go_wp2_with fail
            go_ret
            exact ⟨ret_int (by rw [← HR.out]; exact (sys_no hlt (by rw [HX.out]; exact fun h => HMM.out h.2.2.2.2.2.1)).symm), gb_trans HG.out g14⟩
          | true =>
            have HH := Lib.hid (of_decide_eq_true hch)
            have HCS := Lib.hid (RcellsRight_calls w5 _ r.s 64 (HRS.out.more g14))
            clear hch g13 g4
            go_wp2_with fail
            refine HCS.out.mono ?_
            rintro e w6 ⟨rfl, g5⟩
            have g15 := gb_trans g14 g5
            cases hcs : decide (cellsOK 64 r.s) with
            | false =>
              have HMM := Lib.hid (of_decide_eq_false hcs)
              clear hcs
              go_wp2_with fail
              go_ret
              exact ⟨ret_int (by rw [← HR.out]; exact (sys_no hlt (by rw [HX.out]; exact fun h => HMM.out h.2.2.2.2.2.2)).symm), gb_trans HG.out g15⟩
            | true =>
              have HS := Lib.hid (of_decide_eq_true hcs)
              clear hcs
              go_wp2_with fail
              exact ⟨⟨k + 1, by omega, by go_num, gb_trans HG1.out g15, Lib.hid (fun t ht => by
                by_cases htk : t = k
                · subst htk; rw [HX.out]; exact ⟨HM1.out, HM2.out, HZ.out, HK.out, HA.out, HH.out, HS.out⟩
                · exact hb.out t (by omega))⟩, by simp [intOf]; omega⟩
    · obtain rfl : k = l.length := by omega
      have HF : Hid (R = 0) := Lib.hid (by rw [← HR.out]; unfold sysE; rw [if_pos]; exact ⟨by omega, hb.out⟩)
      go_wp2_with fail
      go_ret
      exact ⟨ret_int HF.out.symm, gb_trans gw hg⟩

end Go.Proofs.YtmfmfpmkgmkgiaaGreatDoor

namespace Go.Proofs.YtmfmfpmkgmkgiaaGreatDoor
open Go.RowKit Go.Maps
open Rat
def OwnI (w : World) (g : Nat) (xs : List Nat) : Prop := ∃ T, w.heap[g]? = some (.cells (i64s xs).toArray T (0, 0))
theorem i64s_length (xs : List Nat) : (i64s xs).length = xs.length := by simp [i64s]
theorem i64s_get (xs : List Nat) (i : Nat) (h : i < xs.length) : (i64s xs)[i]? = some (.int .i64 ((xs[i]?.getD 0 : Nat) : Int)) := by
  simp [i64s, List.getElem?_eq_getElem h]
theorem OwnI.cell {w : World} {g : Nat} {xs : List Nat} (h : OwnI w g xs) (i : Nat) (hi : i < xs.length) : w.cell? ⟨g, i, none⟩ = some (.int .i64 ((xs[i]?.getD 0 : Nat) : Int)) := by
  obtain ⟨T, hh⟩ := h
  rw [cell_of_heap hh]
  simpa using i64s_get xs i hi
theorem OwnI.free {w : World} {g : Nat} {xs : List Nat} (h : OwnI w g xs) (i : Nat) : w.frozen? ⟨g, i, none⟩ = false := by
  obtain ⟨T, hh⟩ := h
  exact free_of_heap hh i
theorem OwnI.set {w : World} {g : Nat} {xs : List Nat} (h : OwnI w g xs) (i n : Nat) (z : Int) (hz : z = (n : Int)) : OwnI (w.setCell ⟨g, i, none⟩ (.int .i64 z)) g (xs.set i n) := by
  subst hz
  obtain ⟨T, hh⟩ := h
  exact ⟨T, by rw [heap_set hh]; simp [i64s, List.map_set]⟩
theorem OwnI.d16 {w : World} {g : Nat} {xs : List Nat} (h : OwnI w g xs) (hx : ∀ x ∈ xs, x < 65536) (hl : xs.length ≤ 9223372036854775807) : D16 w (.slice (some ⟨g, 0, none⟩) xs.length xs.length) xs :=
  ⟨.inr ⟨g, 0, xs.length, rfl, Nat.le_refl _, hl, fun i hi => by rw [Nat.zero_add]; exact h.cell i hi⟩, hx⟩
theorem OwnI.more {w w' : World} {g : Nat} {xs : List Nat} (h : OwnI w g xs) (hg : w.grownBy w' none) : OwnI w' g xs := by
  obtain ⟨T, hh⟩ := h
  exact ⟨T, gb_heap hg hh (by simp)⟩
theorem make_i64 {P : Program} (t e : TypeId) (ht : P.underlying t = some (.slice e)) (hinfo : (P.info? e).map (fun i => (i.zero, i.size, i.bytes)) = some (some (.int .i64 0), 1, 8))
    (n : Nat) (hn : n ≤ 8796093022208) (N : Int) (hN : N = (n : Int)) (W : World) :
    (Instr.makeSlice t (.int .i64 N) (.int .i64 N)).run P W = .ok (.slice (some ⟨W.heap.size, 0, none⟩) n n) (W.alloc (.cells (i64s (List.replicate n 0)).toArray e)) := by
  subst hN
  rw [run_make_row' t e (.int .i64 0) 8 ht hinfo rfl .i64 .i64 n (by omega) (by omega) W]
  congr 2
  congr 1
  apply Array.ext
  · simp [madeCells, i64s]
  · intro i h1 h2
    simp [madeCells, i64s, Nat.mod_one]

set_option maxRecDepth 100000 in
set_option maxHeartbeats 40000000 in
theorem MTimes_calls (w : World) (v1 v2 : Value) (x y : Int) (hx : NZ w v1 x) (hy : NZ w v2 y) (lx : (d16 x).length ≤ 1099511627776) (ly : (d16 y).length ≤ 1099511627776) :
    Calls Tryz.prog 107 #[v1, v2] w fun e w' => ∃ nv, e = .returned nv ∧ NZ w' nv (x * y) ∧ w.grownBy w' none := by
  obtain ⟨u1, rfl, hx⟩ := hx
  obtain ⟨u2, rfl, hy⟩ := hy
  obtain ⟨A1, c1, rfl, _⟩ := hx.ctor
  obtain ⟨A2, c2, rfl, _⟩ := hy.ctor
  have HVX : Hid (val 65536 (d16 x) = x.natAbs) := Lib.hid (val_d16 x)
  have HVY : Hid (val 65536 (d16 y) = y.natAbs) := Lib.hid (val_d16 y)
  generalize d16 x = xs at *
  generalize d16 y = ys at *
  generalize hd1 : decide (x < 0) = n1 at *
  generalize hd2 : decide (y < 0) = n2 at *
  have HN1 := Lib.hid hd1
  have HN2 := Lib.hid hd2
  clear hd1 hd2
  have gw := gb_trans (gb_trans (gb_alloc w (.cells #[.bool n1, .slice A1 xs.length c1] 122) none) (gb_alloc _ (.cells #[.bool n2, .slice A2 ys.length c2] 122) none)) (gb_alloc _ (.cells #[.bool false, .slice none 0 0] 122) none)
  have hB1 := (Blk.new w #[.bool n1, .slice A1 xs.length c1] 122).more (gb_trans (gb_alloc _ (.cells #[.bool n2, .slice A2 ys.length c2] 122) none) (gb_alloc _ (.cells #[.bool false, .slice none 0 0] 122) none))
  have hB2 := (Blk.new (w.alloc (.cells #[.bool n1, .slice A1 xs.length c1] 122)) #[.bool n2, .slice A2 ys.length c2] 122).more (gb_alloc _ (.cells #[.bool false, .slice none 0 0] 122) none)
  have hB3 := Blk.new ((w.alloc (.cells #[.bool n1, .slice A1 xs.length c1] 122)).alloc (.cells #[.bool n2, .slice A2 ys.length c2] 122)) #[.bool false, .slice none 0 0] 122
  rw [World.size_alloc] at hB2 hB3
  rw [World.size_alloc] at hB3
  have hsz : (((w.alloc (.cells #[.bool n1, .slice A1 xs.length c1] 122)).alloc (.cells #[.bool n2, .slice A2 ys.length c2] 122)).alloc (.cells #[.bool false, .slice none 0 0] 122)).heap.size = w.heap.size + 1 + 1 + 1 := by simp
  have HX := Lib.hid (hx.more gw)
  have HY := Lib.hid (hy.more gw)
  have HB1 := Lib.hid hB1
  have HB2 := Lib.hid hB2
  have HB3 := Lib.hid hB3
  have HSZ := Lib.hid hsz
  have HGW := Lib.hid gw
  clear hx hy hB1 hB2 hB3 hsz gw
  have hmk := make_i64 (P := Tryz.prog) 30 3 Tryz.underlying30 intinfo (xs.length + ys.length) (by omega) ((xs.length : Int) + (ys.length : Int)) (by omega)
  go_enter Tryz.func107, Tryz.ntmps107
  go_wp2_with fail
  generalize ((w.alloc (.cells #[.bool n1, .slice A1 xs.length c1] 122)).alloc (.cells #[.bool n2, .slice A2 ys.length c2] 122)).alloc (.cells #[.bool false, .slice none 0 0] 122) = wa at *
  generalize hs : w.heap.size = s at *
  have HS := Lib.hid hs
  clear hs
  obtain ⟨x0, x1, _⟩ := HB1.out.two
  obtain ⟨y0, y1, _⟩ := HB2.out.two
  have hws : IntKind.i64.wrap ((xs.length : Int) + (ys.length : Int)) = (xs.length : Int) + (ys.length : Int) := IntWalk.i64_in _ (by omega)
  go_wp2_with fail
  have g1 := gb_alloc wa (.cells (i64s (List.replicate (xs.length + ys.length) 0)).toArray 3) none
  have ho0 : OwnI (wa.alloc (.cells (i64s (List.replicate (xs.length + ys.length) 0)).toArray 3)) (s + 1 + 1 + 1) (List.replicate (xs.length + ys.length) 0) := ⟨3, heap_new _ HSZ.out.symm⟩
  clear hmk hws
  go_loopw [6] (fun iv wr => ∃ (k : Nat) (os : List Nat), k ≤ xs.length ∧ iv = .int .i64 k ∧ wa.grownBy wr none ∧ Hid (OwnI wr (s + 1 + 1 + 1) os) ∧ Hid (TimOut os xs ys k)) (fun iv _ => (xs.length - intOf iv).toNat)
  case atStart => exact ⟨0, _, by omega, rfl, g1, Lib.hid ho0, Lib.hid (TimOut.start xs ys)⟩
  case round =>
    clear g1 ho0
    obtain ⟨k, os, hk, rfl, hg, ho, hv⟩ := hrel
    have x0 := gb_cell hg x0 (by simp)
    have x1 := gb_cell hg x1 (by simp)
    have y0 := gb_cell hg y0 (by simp)
    have y1 := gb_cell hg y1 (by simp)
    by_cases hlt : k < xs.length
    · obtain ⟨b1, o1, rfl, u1, lx1⟩ := (HX.out.more hg).at hlt
      have hxk : xs[k]?.getD 0 = xs.getD k 0 := (List.getD_eq_getElem?_getD ..).symm
      generalize xs.getD k 0 = x' at *
      have HXK := Lib.hid hxk
      have HLT := Lib.hid hlt
      clear hxk
      go_wp2_with fail
      obtain ⟨wo, rfl⟩ : ∃ wo : World, wo = wr := ⟨_, rfl⟩
      go_loopw [7, 8] (fun cv jv wr => ∃ (j cy : Nat) (os : List Nat), j ≤ ys.length ∧ jv = .int .i64 j ∧ cv = .int .i64 cy ∧ cy < 65536 ∧ wa.grownBy wr none ∧ Hid (OwnI wr (s + 1 + 1 + 1) os) ∧ Hid (TimIn os xs ys k j cy)) (fun _ jv _ => (ys.length - intOf jv).toNat)
      case atStart => exact ⟨0, 0, os, by omega, rfl, rfl, by omega, hg, ho, Lib.hid hv.out.enter⟩
      case round =>
        clear ho hv hg x0 x1 y0 y1 u1
        obtain ⟨j, cy, os, hj, rfl, rfl, hcy, hg, ho, hv⟩ := hrel
        obtain ⟨x0, x1, _⟩ := (HB1.out.more hg).two
        obtain ⟨y0, y1, _⟩ := (HB2.out.more hg).two
        by_cases hjt : j < ys.length
        · obtain ⟨b2, o2, rfl, u2, ly1⟩ := (HY.out.more hg).at hjt
          obtain ⟨b1', o1', e, u1, _⟩ := (HX.out.more hg).at hlt
          injection e with e; injection e with e1 e2
          subst e1 e2
          have hyk : ys[j]?.getD 0 = ys.getD j 0 := (List.getD_eq_getElem?_getD ..).symm
          have hx2 : xs.getD k 0 = x' := by rw [List.getD_eq_getElem?_getD]; exact HXK.out
          rw [hx2] at u1
          generalize ys.getD j 0 = y' at *
          have u3 := ho.out.cell (k + j) (by rw [hv.out.1]; omega)
          have f3 := ho.out.free (k + j)
          have lu := getD_lt (B := 65536) (by omega) hv.out.2.1 (k + j)
          rw [List.getD_eq_getElem?_getD] at lu
          have hsm := tim_small lx1 ly1 lu hcy
          generalize huk : os[k + j]?.getD 0 = u at *
          obtain ⟨t, ht⟩ : ∃ t : Nat, t = u + x' * y' + cy := ⟨_, rfl⟩
          have HT := Lib.hid ht
          have p1 : (x' : Int) * (y' : Int) = ((x' * y' : Nat) : Int) := (Int.natCast_mul _ _).symm
          have hpl : x' * y' ≤ 4294967295 := by omega
          rw [← ht] at hsm
          have ht2 : (u : Int) + ((x' * y' : Nat) : Int) + (cy : Int) = (t : Int) := by omega
          generalize hpp : x' * y' = pp at *
          have HPP := Lib.hid hpp
          clear hpp
          have q0 : IntKind.i64.wrap ((k : Int) + (j : Int)) = (k : Int) + (j : Int) := IntWalk.i64_in _ (by omega)
          have q1 : ((k : Int) + (j : Int)).toNat = k + j := by omega
          have q2 : (0 : Int) ≤ (k : Int) + (j : Int) := by omega
          have q3 : (k : Int) + (j : Int) < (xs.length : Int) + (ys.length : Int) := by omega
          have q4 : IntKind.i64.wrap (pp : Int) = (pp : Int) := IntWalk.i64_in _ (by omega)
          have q5 : IntKind.i64.wrap ((u : Int) + (pp : Int)) = (u : Int) + (pp : Int) := IntWalk.i64_in _ (by omega)
          have q6 : IntKind.i64.wrap (t : Int) = (t : Int) := IntWalk.i64_in _ (by omega)
          have r1 : (t : Int).tmod 65536 = (t : Int) % 65536 := Int.tmod_eq_emod_of_nonneg (by omega)
          have r2 : (t : Int).tdiv 65536 = (t : Int) / 65536 := Int.tdiv_eq_ediv_of_nonneg (by omega)
          have r3 : IntKind.i64.wrap ((t : Int) % 65536) = (t : Int) % 65536 := IntWalk.i64_in _ (by omega)
          have r4 : IntKind.i64.wrap ((t : Int) / 65536) = (t : Int) / 65536 := IntWalk.i64_in _ (by omega)
          have HUK := Lib.hid huk
          have HYK := Lib.hid hyk
          have HG := Lib.hid hg
          clear huk hyk ht hg hx2 hpl
          go_wp2_with fail
          go_quiet (fail)
          go_wp2_with fail
          have ht := HT.out
          have hst := hv.out.step (j := j) (by omega) hjt
          rw [HUK.out, HXK.out, HYK.out, HPP.out, ← ht] at hst
          exact ⟨⟨j + 1, t / 65536, _, by omega, by go_num, by go_num, by omega, gb_new (gb_trans HG.out (gb_drewN _ _ _)) (gb_set _ _ _ _) (by have := HSZ.out; omega), Lib.hid ((ho.out.more (gb_drewN _ _ _)).set (k + j) (t % 65536) _ (by omega)), Lib.hid hst⟩, by simp [intOf]; omega⟩
        · obtain rfl : j = ys.length := by omega
          have u3 := ho.out.cell (k + ys.length) (by rw [hv.out.1]; omega)
          have f3 := ho.out.free (k + ys.length)
          rw [hv.out.2.2.1 _ (Nat.le_refl _)] at u3
          have q0 : IntKind.i64.wrap ((k : Int) + (ys.length : Int)) = (k : Int) + (ys.length : Int) := IntWalk.i64_in _ (by omega)
          have q1 : ((k : Int) + (ys.length : Int)).toNat = k + ys.length := by omega
          have q2 : (0 : Int) ≤ (k : Int) + (ys.length : Int) := by omega
          have q3 : (k : Int) + (ys.length : Int) < (xs.length : Int) + (ys.length : Int) := by omega
          have q4 : IntKind.i64.wrap (cy : Int) = (cy : Int) := IntWalk.i64_in _ (by omega)
          have HG := Lib.hid hg
          have HLV := Lib.hid (hv.out.leave hlt hcy)
          clear hg hcy
          go_wp2_with fail
          go_still_tail 17, (by kernel_rfl)
          change wpList _ _ _ _ _ wr.drew
          go_wp2_with fail
          exact ⟨⟨k + 1, _, by omega, by go_num, gb_new (gb_trans HG.out (gb_drew _ _)) (gb_set _ _ _ _) (by have := HSZ.out; omega), Lib.hid ((ho.out.more (gb_drew _ _)).set (k + ys.length) cy _ rfl), Lib.hid HLV.out⟩, by simp [intOf]; omega⟩
    · obtain rfl : k = xs.length := by omega
      have hval : Hid (dig 65536 (val 65536 os) = d16 (x * y)) := Lib.hid (by rw [hv.out.end, HVX.out, HVY.out, ← Int.natAbs_mul]; rfl)
      have hl : os.length = xs.length + ys.length := hv.out.1
      have hD := ho.out.d16 hv.out.2.1 (by omega)
      rw [hl] at hD
      have HD := Lib.hid hD
      have HG := Lib.hid hg
      clear hD hv ho hg hl
      go_wp2_with fail
      clear x0 x1 y0 y1
      refine (Rtrim_calls wr _ os HD.out).mono ?_
      rintro e w1 ⟨v5, rfl, hd5, hb5, rfl⟩
      rw [hval.out] at hd5
      obtain ⟨A5, c5, rfl, hl5⟩ := hd5.ctor
      obtain ⟨x0, _⟩ := (HB1.out.more HG.out).two
      obtain ⟨y0, _⟩ := (HB2.out.more HG.out).two
      obtain ⟨d0, d1, f0, f1⟩ := (HB3.out.more HG.out).two
      have HFAR : Hid ((Value.slice A5 (d16 (x * y)).length c5).ownBlock ≠ some (s + 1 + 1)) := Lib.hid (by rw [hb5]; simp [Value.ownBlock])
      have HD5 := Lib.hid hd5
      have HG1 := Lib.hid (gb_trans HGW.out HG.out)
      clear hd5 hb5
      have hz0 : (d16 (x * y)).length = 0 ↔ x * y = 0 := by rw [List.length_eq_zero_iff]; exact d16_nil
      generalize (d16 (x * y)).length = n5 at *
      have HZ0 := Lib.hid hz0
      clear hz0
      cases n1 with
      | false =>
        have h1 := of_decide_eq_false HN1.out
        cases n2 with
        | false =>
          have h2 := of_decide_eq_false HN2.out
          have HSGN : Hid (decide (x * y < 0) = false) := Lib.hid (decide_eq_false (by have := Int.mul_nonneg (show 0 ≤ x by omega) (show 0 ≤ y by omega); omega))
          clear h1 h2
          go_wp2
          try simp only [Exit.inBlock, Exit.then]
          have hg6 : wr.grownBy ((wr.setCell ⟨s + 1 + 1, 0, none⟩ (.bool false)).setCell ⟨s + 1 + 1, 1, none⟩ (.slice A5 n5 c5)) (some (s + 1 + 1)) := gb_trans (gb_set _ _ _ _) (gb_set _ _ _ _)
          refine bodyPost_ret (v := .agg #[.bool false, .slice A5 n5 c5]) (by simp [results, Tryz.results107, go_sem, *]) rfl ⟨_, rfl, ⟨.slice A5 n5 c5, ?_, ?_⟩, gb_new HG1.out hg6 (by have := HS.out; omega)⟩
          · rw [HSGN.out]
          · exact HD5.out.apart hg6 HFAR.out
        | true =>
          have h2 := of_decide_eq_true HN2.out
          have h3 := Int.mul_nonpos_of_nonneg_of_nonpos (show 0 ≤ x by omega) (show y ≤ 0 by omega)
          have HSGN : Hid (decide (x * y < 0) = decide (0 < n5)) := Lib.hid (by
            by_cases hz : n5 = 0
            · have := HZ0.out.1 hz; rw [decide_eq_false (by omega), decide_eq_false (by omega)]
            · have h4 : x * y ≠ 0 := fun e => hz (HZ0.out.2 e)
              rw [decide_eq_true (by omega), decide_eq_true (by omega)])
          clear h1 h2 h3
          go_wp2
          try simp only [Exit.inBlock, Exit.then]
          have hg6 : wr.grownBy ((wr.setCell ⟨s + 1 + 1, 0, none⟩ (.bool (decide (0 < n5)))).setCell ⟨s + 1 + 1, 1, none⟩ (.slice A5 n5 c5)) (some (s + 1 + 1)) := gb_trans (gb_set _ _ _ _) (gb_set _ _ _ _)
          refine bodyPost_ret (v := .agg #[.bool (decide (0 < n5)), .slice A5 n5 c5]) (by simp [results, Tryz.results107, go_sem, *]) rfl ⟨_, rfl, ⟨.slice A5 n5 c5, ?_, ?_⟩, gb_new HG1.out hg6 (by have := HS.out; omega)⟩
          · rw [HSGN.out]
          · exact HD5.out.apart hg6 HFAR.out
      | true =>
        have h1 := of_decide_eq_true HN1.out
        cases n2 with
        | false =>
          have h2 := of_decide_eq_false HN2.out
          have h3 := Int.mul_nonpos_of_nonpos_of_nonneg (show x ≤ 0 by omega) (show 0 ≤ y by omega)
          have HSGN : Hid (decide (x * y < 0) = decide (0 < n5)) := Lib.hid (by
            by_cases hz : n5 = 0
            · have := HZ0.out.1 hz; rw [decide_eq_false (by omega), decide_eq_false (by omega)]
            · have h4 : x * y ≠ 0 := fun e => hz (HZ0.out.2 e)
              rw [decide_eq_true (by omega), decide_eq_true (by omega)])
          clear h1 h2 h3
          go_wp2
          try simp only [Exit.inBlock, Exit.then]
          have hg6 : wr.grownBy ((wr.setCell ⟨s + 1 + 1, 0, none⟩ (.bool (decide (0 < n5)))).setCell ⟨s + 1 + 1, 1, none⟩ (.slice A5 n5 c5)) (some (s + 1 + 1)) := gb_trans (gb_set _ _ _ _) (gb_set _ _ _ _)
          refine bodyPost_ret (v := .agg #[.bool (decide (0 < n5)), .slice A5 n5 c5]) (by simp [results, Tryz.results107, go_sem, *]) rfl ⟨_, rfl, ⟨.slice A5 n5 c5, ?_, ?_⟩, gb_new HG1.out hg6 (by have := HS.out; omega)⟩
          · rw [HSGN.out]
          · exact HD5.out.apart hg6 HFAR.out
        | true =>
          have h2 := of_decide_eq_true HN2.out
          have HSGN : Hid (decide (x * y < 0) = false) := Lib.hid (decide_eq_false (by have := Int.mul_nonneg_of_nonpos_of_nonpos (show x ≤ 0 by omega) (show y ≤ 0 by omega); omega))
          clear h1 h2
          go_wp2
          try simp only [Exit.inBlock, Exit.then]
          have hg6 : wr.grownBy ((wr.setCell ⟨s + 1 + 1, 0, none⟩ (.bool false)).setCell ⟨s + 1 + 1, 1, none⟩ (.slice A5 n5 c5)) (some (s + 1 + 1)) := gb_trans (gb_set _ _ _ _) (gb_set _ _ _ _)
          refine bodyPost_ret (v := .agg #[.bool false, .slice A5 n5 c5]) (by simp [results, Tryz.results107, go_sem, *]) rfl ⟨_, rfl, ⟨.slice A5 n5 c5, ?_, ?_⟩, gb_new HG1.out hg6 (by have := HS.out; omega)⟩
          · rw [HSGN.out]
          · exact HD5.out.apart hg6 HFAR.out

end Go.Proofs.YtmfmfpmkgmkgiaaGreatDoor
