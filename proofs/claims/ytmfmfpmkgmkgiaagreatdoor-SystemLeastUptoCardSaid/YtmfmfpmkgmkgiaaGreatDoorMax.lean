/- Contracts of the program's functions, and what they rest on: AwC LawB RdF LeA StG. -/
import Derived.Test.YtmfmfpmkgmkgiaaGreatDoorMaw
import Derived.Test.YtmfmfpmkgmkgiaaGreatDoorMao
import Derived.Test.YtmfmfpmkgmkgiaaGreatDoorRows
import Derived.Test.YtmfmfpmkgmkgiaaGreatDoorMaj
import Derived.Test.YtmfmfpmkgmkgiaaGreatDoorMal
import Derived.Test.YtmfmfpmkgmkgiaaGreatDoorMav
import Derived.Test.YtmfmfpmkgmkgiaaGreatDoorMar
set_option linter.unusedVariables false
set_option linter.unusedSimpArgs false
namespace Go.Proofs.YtmfmfpmkgmkgiaaGreatDoor
open Go.RowKit Go.Maps

theorem dm2 : digs (-2) = [2] := by decide +kernel
theorem row0_row (W : World) (T : TypeId) : SysRow (W.alloc (.cells #[.bool false, .slice none 0 0, .slice none 0 0, .slice none 0 0, .slice none 0 0, .bool false, .slice none 0 0] T)) (.slice (some ⟨W.heap.size, 0, none⟩) 1 1) [row0] := by
  have hb := Blk.new W #[.bool false, .slice none 0 0, .slice none 0 0, .slice none 0 0, .slice none 0 0, .bool false, .slice none 0 0] T
  have hc : ∀ w, CellRow w (.slice none 0 0) [] := fun w => ⟨none, 0, rfl, by simp, by omega, fun h => by simp at h⟩
  refine ⟨_, _, rfl, by simp, by simp, fun _ => ⟨W.heap.size, 0, rfl, fun i hi => ?_⟩⟩
  obtain rfl : i = 0 := by simp at hi; omega
  refine ⟨_, ⟨.slice none 0 0, .slice none 0 0, .slice none 0 0, .slice none 0 0, .slice none 0 0, rfl, Nums.nil _, hc _, hc _, hc _, Nums.nil _⟩, fun j hj => ?_⟩
  rw [show 0 + 0 * 7 + j = j by omega, hb.cell]
  rcases j with _ | _ | _ | _ | _ | _ | _ | j <;> first | rfl | omega
set_option maxRecDepth 100000 in
set_option maxHeartbeats 40000000 in
theorem awake_calls (w : World) (hG : GlobOK w) :
    Calls Tryz.prog 10 #[] w fun e w' => e = .returned (.bool true) ∧ w.grownBy w' none := by
  have HG := Lib.hid hG
  clear hG
  go_enter Tryz.func10, Tryz.ntmps10
  go_wp2_with fail
  refine (circuit_calls w).mono ?_
  rintro e w1 ⟨A1, A2, rfl, hf, hg1⟩
  have HC := Lib.hid (circBuild_calls w1 A1 A2 hf (HG.out.more hg1))
  have HG1 := Lib.hid hg1
  clear hf hg1
  go_wp2_with fail
  refine HC.out.mono ?_
  rintro e w2 ⟨A, c, rfl, hs, hg2⟩
  have HS := Lib.hid hs
  have HG2 := Lib.hid (gb_trans HG1.out hg2)
  clear hs hg2 HC
  have ga := gb_alloc w2 (.cells #[.slice A 3 c] 38) none
  have hB := Blk.new w2 #[.slice A 3 c] 38
  have HB := Lib.hid hB
  have HS := Lib.hid (HS.out.more ga)
  have HG3 := Lib.hid (gb_trans HG2.out ga)
  clear ga hB
  go_wp2_with fail
  generalize w2.alloc (.cells #[.slice A 3 c] 38) = w3 at HB HS HG3 ⊢
  generalize w2.heap.size = sb at HB ⊢
  refine (circuit_calls w3).mono ?_
  rintro e w4 ⟨B1, B2, rfl, hf, hg4⟩
  have HG4 := Lib.hid (gb_trans HG3.out hg4)
  have HC := Lib.hid (circSources_calls w4 B1 B2 hf (HG.out.more HG4.out))
  have HB4 := Lib.hid (HB.out.more hg4)
  have HS4 := Lib.hid (HS.out.more hg4)
  clear hf hg4 HB HS
  go_wp2_with fail
  refine HC.out.mono ?_
  rintro e w5 ⟨v5, rfl, hv5, hg5⟩
  obtain ⟨A5, c5, rfl, _⟩ := id hv5.ctor
  have HV5 := Lib.hid hv5
  have HB5 := Lib.hid (HB4.out.more hg5)
  have HS5 := Lib.hid (HS4.out.more hg5)
  have HG5 := Lib.hid (gb_trans HG4.out hg5)
  have c0 := HB5.out.cell 0
  clear hv5 hg5 HB4 HS4 HC
  have ga := gb_alloc w5 (.cells #[.int .i64 0, .int .i64 0, .int .i64 0] 2) none
  have hp : IntRow (w5.alloc (.cells #[.int .i64 0, .int .i64 0, .int .i64 0] 2)) (.slice (some ⟨w5.heap.size, 0, none⟩) 3 3) [0, 0, 0] := blk_ints (l := [0, 0, 0]) (Blk.new w5 #[.int .i64 0, .int .i64 0, .int .i64 0] 2) (by simp) (by simp [I64])
  have hc := Rhs_calls (w5.alloc (.cells #[.int .i64 0, .int .i64 0, .int .i64 0] 2)) (.slice A 3 c) _ (.slice A5 3 c5) circV [0, 0, 0] [5000000000, 0, 0] (HS5.out.more ga) hp (HV5.out.more ga)
  rw [circ_rhs, circ_rhsV.1] at hc
  have HC := Lib.hid hc
  have HB6 := Lib.hid (HB5.out.more ga)
  have HS6 := Lib.hid (HS5.out.more ga)
  have HG6 := Lib.hid (gb_trans HG5.out ga)
  clear hc hp ga HB5 HS5
  go_wp2_with fail
  refine HC.out.mono ?_
  rintro e w7 ⟨A7, c7, rfl, hz, hg7⟩
  have HZ := Lib.hid hz
  have HB7 := Lib.hid (HB6.out.more hg7)
  have HS7 := Lib.hid (HS6.out.more hg7)
  have HG7 := Lib.hid (gb_trans HG6.out hg7)
  have c0 := HB7.out.cell 0
  clear hz hg7 HB6 HS6 HC
  have hlen : (3 : Nat) = circV.length := circ_len.symm
  obtain ⟨b, o, Am, nm, cm, Aa, ca, Ah, ch, As, cs, Ak, nk, ck, rfl, q0, q1, q2, q3, q4, q5, q6, rm, ra, rh, rs, rk⟩ := HS7.out.at (i := 1) (by rw [← hlen]; omega)
  rw [circ_a.1] at q2
  have QS := Lib.hid (And.intro q0 (And.intro q1 q2))
  have RM := Lib.hid rm
  have RA := Lib.hid ra
  clear q0 q1 q3 q4 q5 q6 rm ra rh rs rk hlen
  simp only [Nat.one_mul] at q2
  go_upto_region 6 with (fail)
  have RA2 : CellRow w7 (.slice Aa 2 ca) (circV.getD 1 row0).a := by have := RA.out; rwa [circ_a.1] at this
  obtain ⟨b3, o3, A3, n3, k3, hA3, _, x0, x1, x2, xn⟩ := RA2.at (i := 0) (by rw [circ_a.1]; omega)
  obtain ⟨b4, o4, A4, n4, k4, hA4, _, y0, y1, y2, yn⟩ := RA2.at (i := 1) (by rw [circ_a.1]; omega)
  obtain ⟨b6, A6, n6, k6, hA6, z0, z1, zn⟩ := HZ.out.at (i := 2) (by rw [circ_rhsV.1]; omega)
  subst hA3
  injection hA4 with hA4
  injection hA4 with e1 e2
  subst e1 e2
  subst hA6
  obtain ⟨q0, q1, q2⟩ := QS.out
  rw [circ_m.1] at q0
  rw [circ_a.2.1] at x1
  rw [circ_a.2.2.2] at y0
  simp only [Nat.zero_mul, Nat.one_mul, Nat.add_zero, Nat.reduceMul, Nat.reduceAdd] at q0 q1 q2 x0 x1 x2 y0 y1 y2 z0 z1
  rw [circ_rhsV.2] at z0 zn
  rw [circ_a.2.2.1] at xn
  have rm := RM.out
  rw [circ_m.2] at rm
  simp at z0
  have HK : ∀ W, w7.grownBy W none → W.cell? ⟨sb, 0, none⟩ = some (.slice (some ⟨b, o, none⟩) 3 c) ∧ W.cell? ⟨b, o + 7, none⟩ = some (.bool false) ∧ W.cell? ⟨b, o + 7 + 1, none⟩ = some (.slice Am nm cm) ∧ W.cell? ⟨b, o + 7 + 2, none⟩ = some (.slice (some ⟨b3, o3, none⟩) 2 ca) ∧ W.cell? ⟨b3, o3 + 1, none⟩ = some (.bool true) ∧ W.cell? ⟨b3, o3 + 2, none⟩ = some (.slice A3 n3 k3) ∧ W.cell? ⟨b3, o3 + 3, none⟩ = some (.int .i64 1) ∧ W.cell? ⟨b6, 4, none⟩ = some (.bool false) ∧ W.cell? ⟨b6, 5, none⟩ = some (.slice A6 n6 k6) := fun W h => ⟨gb_cell h c0 (by simp), gb_cell h q0 (by simp), gb_cell h q1 (by simp), gb_cell h q2 (by simp), gb_cell h x1 (by simp), gb_cell h x2 (by simp), gb_cell h y0 (by simp), gb_cell h z0 (by simp), gb_cell h z1 (by simp)⟩
  have HKK := Lib.hid HK
  have RMH := Lib.hid rm
  have XNH := Lib.hid xn
  have ZNH := Lib.hid zn
  clear HK rm xn yn zn HZ HB7 HS7 RM RA RA2 QS
  go_region_held3 (fun W => W.cell? ⟨sb, 0, none⟩ = some (.slice (some ⟨b, o, none⟩) 3 c) ∧ W.cell? ⟨b, o + 7, none⟩ = some (.bool false) ∧ W.cell? ⟨b, o + 7 + 1, none⟩ = some (.slice Am nm cm) ∧ W.cell? ⟨b, o + 7 + 2, none⟩ = some (.slice (some ⟨b3, o3, none⟩) 2 ca) ∧ W.cell? ⟨b3, o3 + 1, none⟩ = some (.bool true) ∧ W.cell? ⟨b3, o3 + 2, none⟩ = some (.slice A3 n3 k3) ∧ W.cell? ⟨b3, o3 + 3, none⟩ = some (.int .i64 1) ∧ W.cell? ⟨b6, 4, none⟩ = some (.bool false) ∧ W.cell? ⟨b6, 5, none⟩ = some (.slice A6 n6 k6)) ((refine HKK.out _ ?_; (focus ((repeat (first | assumption | exact gb_refl _ _ | exact gb_drew _ _ | exact gb_alloc _ _ _ | refine gb_trans ?_ (gb_alloc _ _ _) | refine gb_trans ?_ (gb_drew _ _) | refine gb_trans ?_ (by assumption))); done))))
    (first
    | (go_at_call_of 32 (Value.int .i64 2000); refine (LOf_calls _ 2000 (by omega) (by omega)).mono ?_; rintro e w8 ⟨s1, rfl, hn1, hf1, hg8⟩; rw [show digs 2000 = [2000] by decide +kernel] at hn1)
    | (go_at_call_of 31 (Value.agg #[.bool false, .slice Am nm cm]); refine (same_calls _ false _ _ [2000] (RMH.out.more (by (focus ((repeat (first | assumption | exact gb_refl _ _ | exact gb_drew _ _ | exact gb_alloc _ _ _ | refine gb_trans ?_ (gb_alloc _ _ _) | refine gb_trans ?_ (gb_drew _ _) | refine gb_trans ?_ (by assumption))); done)))) hn1).mono ?_; rintro e w9 ⟨rfl, hg9⟩)
    | (go_at_call_of 32 (Value.int .i64 5000000000); refine (LOf_calls _ 5000000000 (by omega) (by omega)).mono ?_; rintro e w12 ⟨s3, rfl, hn3, hf3, hg12⟩)
    | (go_at_call 32; refine (LOf_calls _ (-2) (by decide) (by decide)).mono ?_; rintro e w10 ⟨s2, rfl, hn2, hf2, hg10⟩; rw [dm2] at hn2)
    | (go_at_call_of 31 (Value.agg #[.bool true, .slice A3 n3 k3]); refine (same_calls _ true _ _ [2] (XNH.out.more (by (focus ((repeat (first | assumption | exact gb_refl _ _ | exact gb_drew _ _ | exact gb_alloc _ _ _ | refine gb_trans ?_ (gb_alloc _ _ _) | refine gb_trans ?_ (gb_drew _ _) | refine gb_trans ?_ (by assumption))); done)))) hn2).mono ?_; rintro e w11 ⟨rfl, hg11⟩)
    | (go_at_call_of 31 (Value.agg #[.bool false, .slice A6 n6 k6]); refine (same_calls _ false _ _ (digs 5000000000) (ZNH.out.more (by (focus ((repeat (first | assumption | exact gb_refl _ _ | exact gb_drew _ _ | exact gb_alloc _ _ _ | refine gb_trans ?_ (gb_alloc _ _ _) | refine gb_trans ?_ (gb_drew _ _) | refine gb_trans ?_ (by assumption))); done)))) hn3).mono ?_; rintro e w13 ⟨rfl, hg13⟩)
    | (go_at_call 24; refine (SysCheck_calls _ _ [row0] (row0_row _ _)).mono ?_; rintro e w14 ⟨rfl, hg14⟩; rw [circ_zero])
    | (fail))
  all_goals
    go_wp2_with fail
    go_ret
    exact ⟨rfl, gb_trans HG7.out (by (focus ((repeat (first | assumption | exact gb_refl _ _ | exact gb_drew _ _ | exact gb_alloc _ _ _ | refine gb_trans ?_ (gb_alloc _ _ _) | refine gb_trans ?_ (gb_drew _ _) | refine gb_trans ?_ (by assumption))); done)))⟩

end Go.Proofs.YtmfmfpmkgmkgiaaGreatDoor

namespace Go.Proofs.YtmfmfpmkgmkgiaaGreatDoor
open Go.RowKit Go.Maps

theorem w64_in (x : Int) : I64 (wrap64 x) := by
  unfold I64 wrap64
  omega

set_option maxRecDepth 100000 in
set_option maxHeartbeats 40000000 in
theorem heavy_calls (w : World) (v : Value) (l : List RowP) (hl : SysRow w v l) :
    Calls Tryz.prog 20 #[.agg #[v]] w fun e w' => ∃ b, e = .returned (.bool b) ∧ w.grownBy w' none := by
  obtain ⟨A, c, rfl, h1, h2⟩ := hl.ctor
  have gw := gb_alloc w (.cells #[.slice A l.length c] 38) none
  have hB := Blk.new w #[.slice A l.length c] 38
  have c0 : (w.alloc (.cells #[.slice A l.length c] 38)).cell? ⟨w.heap.size, 0, none⟩ = some (.slice A l.length c) := hB.cell 0
  have HL := Lib.hid (hl.more gw)
  have HGW := Lib.hid gw
  clear hl hB gw
  go_enter Tryz.func20, Tryz.ntmps20
  go_wp2_with fail
  generalize w.alloc (.cells #[.slice A l.length c] 38) = wa at *
  generalize w.heap.size = s at *
  go_loopw [3, 4] (fun zv i wr => ∃ (k : Nat) (z : Int), k ≤ l.length ∧ i = .int .i64 k ∧ zv = .int .i64 z ∧ I64 z ∧ wa.grownBy wr none) (fun _ i _ => (l.length - intOf i).toNat)
  case atStart => exact ⟨0, l.length, by omega, rfl, rfl, ⟨by omega, by omega⟩, gb_refl _ _⟩
  case round =>
    obtain ⟨k, z, hk, rfl, rfl, hz, hg⟩ := hrel
    have cw := gb_cell hg c0 (by simp)
    by_cases hlt : k < l.length
    · by_cases hz4 : z < 4000
      · obtain ⟨b, o, Am, nm, cm, Aa, ca, Ah, ch, As, cs, Ak, nk, ck, rfl, q0, q1, q2, q3, q4, q5, q6, rm, ra, rh, rs, rk⟩ := (HL.out.more hg).at hlt
        generalize hx : l.getD k row0 = r at *
        have ga := gb_alloc wr (.cells #[.bool r.mneg, .slice Am nm cm, .slice Aa r.a.length ca, .slice Ah r.h.length ch, .slice As r.s.length cs, .bool r.kneg, .slice Ak nk ck] 52) none
        have hBX := Blk.new wr #[.bool r.mneg, .slice Am nm cm, .slice Aa r.a.length ca, .slice Ah r.h.length ch, .slice As r.s.length cs, .bool r.kneg, .slice Ak nk ck] 52
        obtain ⟨m0, m1, m2, m3, m4, m5, m6⟩ := hBX.seven
        have HRA := Lib.hid ra
        have HRH := Lib.hid rh
        have HRS := Lib.hid rs
        clear hx rm ra rh rs rk hBX
        go_wp2_with fail
        have HZZ := Lib.hid (w64_in (z + (min 4000 (nm : Int) + min 4000 (nk : Int))))
        have gb2 := gb_alloc (wr.alloc (.cells #[.bool r.mneg, .slice Am nm cm, .slice Aa r.a.length ca, .slice Ah r.h.length ch, .slice As r.s.length cs, .bool r.kneg, .slice Ak nk ck] 52)) (.cells #[.slice Aa r.a.length ca, .slice Ah r.h.length ch, .slice As r.s.length cs] 50) none
        have hBM := Blk.new (wr.alloc (.cells #[.bool r.mneg, .slice Am nm cm, .slice Aa r.a.length ca, .slice Ah r.h.length ch, .slice As r.s.length cs, .bool r.kneg, .slice Ak nk ck] 52)) #[.slice Aa r.a.length ca, .slice Ah r.h.length ch, .slice As r.s.length cs] 50
        rw [World.size_alloc] at hBM
        have HBM := Lib.hid hBM
        have HGB := Lib.hid (gb_trans hg (gb_trans ga gb2))
        have HRA := Lib.hid (HRA.out.more (gb_trans ga gb2))
        have HRH := Lib.hid (HRH.out.more (gb_trans ga gb2))
        have HRS := Lib.hid (HRS.out.more (gb_trans ga gb2))
        have HLT := Lib.hid hlt
        have HZ := Lib.hid hz
        clear q0 q1 q2 q3 q4 q5 q6 m0 m1 m2 m3 m4 m5 m6 hBM gb2 ga hg hz
        generalize (wr.alloc (.cells #[.bool r.mneg, .slice Am nm cm, .slice Aa r.a.length ca, .slice Ah r.h.length ch, .slice As r.s.length cs, .bool r.kneg, .slice Ak nk ck] 52)).alloc (.cells #[.slice Aa r.a.length ca, .slice Ah r.h.length ch, .slice As r.s.length cs] 50) = wb at HBM HGB HRA HRH HRS ⊢
        generalize wr.heap.size = sb at HBM ⊢
        generalize wrap64 (z + (min 4000 (nm : Int) + min 4000 (nk : Int))) = z1 at HZZ ⊢
        go_loopw [3, 49] (fun zv i wx => ∃ (j : Nat) (z : Int), j ≤ 3 ∧ i = .int .i64 j ∧ zv = .int .i64 z ∧ I64 z ∧ wb.grownBy wx none) (fun _ i _ => (3 - intOf i).toNat)
        case atStart => exact ⟨0, z1, by omega, rfl, rfl, HZZ.out, gb_refl _ _⟩
        case round =>
          clear cw hz4
          obtain ⟨j, z, hj, rfl, rfl, hz, hq⟩ := hrel
          have HZ2 := Lib.hid hz
          have HQ2 := Lib.hid hq
          have b0 := (HBM.out.more hq).cell 0
          have b1 := (HBM.out.more hq).cell 1
          have b2 := (HBM.out.more hq).cell 2
          simp at b0 b1 b2
          by_cases hj3 : j < 3
          · clear hz hq
            have hjj : j = 0 ∨ j = 1 ∨ j = 2 := by omega
            rcases hjj with rfl | rfl | rfl
            · as_aux_lemma =>
              go_wp2_with fail
              go_loopw [3, 8] (fun zv i wx => ∃ (t : Nat) (z : Int), t ≤ r.a.length ∧ i = .int .i64 t ∧ zv = .int .i64 z ∧ I64 z ∧ wb.grownBy wx none) (fun _ i _ => (r.a.length - intOf i).toNat)
              case atStart => exact ⟨0, z, by omega, rfl, rfl, HZ2.out, HQ2.out⟩
              case round =>
                obtain ⟨t, z, ht, rfl, rfl, hz, hq⟩ := hrel
                by_cases htl : t < r.a.length
                · by_cases hz4 : z < 4000
                  · obtain ⟨bc, oc, A', n', c', rfl, hI, u0, u1, u2, hnc⟩ := (HRA.out.more hq).at htl
                    have HGQ := Lib.hid hq
                    have HTL := Lib.hid htl
                    obtain ⟨_, _, _, hx1, hx2⟩ := HRA.out.ctor
                    have hll : r.a.length ≤ 9223372036854775807 := by omega
                    clear hx1 hx2
                    clear hnc hI u0 u1 hz
                    go_wp2_with fail
                    have htl2 := HTL.out
                    exact ⟨⟨t + 1, _, htl2, by go_num, rfl, w64_in _, HGQ.out⟩, by simp only [intOf]; omega⟩
                  · skip
                    have HGQ := Lib.hid hq
                    have HZ3 := Lib.hid hz
                    go_wp2_with fail
                    exact ⟨⟨0 + 1, z, by omega, by go_num, rfl, HZ3.out, HGQ.out⟩, by simp [intOf] <;> omega⟩
                · skip
                  have HGQ := Lib.hid hq
                  have HZ3 := Lib.hid hz
                  go_wp2_with fail
                  exact ⟨⟨0 + 1, z, by omega, by go_num, rfl, HZ3.out, HGQ.out⟩, by simp [intOf] <;> omega⟩
            · as_aux_lemma =>
              go_wp2_with fail
              go_loopw [3, 8] (fun zv i wx => ∃ (t : Nat) (z : Int), t ≤ r.h.length ∧ i = .int .i64 t ∧ zv = .int .i64 z ∧ I64 z ∧ wb.grownBy wx none) (fun _ i _ => (r.h.length - intOf i).toNat)
              case atStart => exact ⟨0, z, by omega, rfl, rfl, HZ2.out, HQ2.out⟩
              case round =>
                obtain ⟨t, z, ht, rfl, rfl, hz, hq⟩ := hrel
                by_cases htl : t < r.h.length
                · by_cases hz4 : z < 4000
                  · obtain ⟨bc, oc, A', n', c', rfl, hI, u0, u1, u2, hnc⟩ := (HRH.out.more hq).at htl
                    have HGQ := Lib.hid hq
                    have HTL := Lib.hid htl
                    obtain ⟨_, _, _, hx1, hx2⟩ := HRH.out.ctor
                    have hll : r.h.length ≤ 9223372036854775807 := by omega
                    clear hx1 hx2
                    clear hnc hI u0 u1 hz
                    go_wp2_with fail
                    have htl2 := HTL.out
                    exact ⟨⟨t + 1, _, htl2, by go_num, rfl, w64_in _, HGQ.out⟩, by simp only [intOf]; omega⟩
                  · skip
                    have HGQ := Lib.hid hq
                    have HZ3 := Lib.hid hz
                    go_wp2_with fail
                    exact ⟨⟨1 + 1, z, by omega, by go_num, rfl, HZ3.out, HGQ.out⟩, by simp [intOf] <;> omega⟩
                · skip
                  have HGQ := Lib.hid hq
                  have HZ3 := Lib.hid hz
                  go_wp2_with fail
                  exact ⟨⟨1 + 1, z, by omega, by go_num, rfl, HZ3.out, HGQ.out⟩, by simp [intOf] <;> omega⟩
            · as_aux_lemma =>
              go_wp2_with fail
              go_loopw [3, 8] (fun zv i wx => ∃ (t : Nat) (z : Int), t ≤ r.s.length ∧ i = .int .i64 t ∧ zv = .int .i64 z ∧ I64 z ∧ wb.grownBy wx none) (fun _ i _ => (r.s.length - intOf i).toNat)
              case atStart => exact ⟨0, z, by omega, rfl, rfl, HZ2.out, HQ2.out⟩
              case round =>
                obtain ⟨t, z, ht, rfl, rfl, hz, hq⟩ := hrel
                by_cases htl : t < r.s.length
                · by_cases hz4 : z < 4000
                  · obtain ⟨bc, oc, A', n', c', rfl, hI, u0, u1, u2, hnc⟩ := (HRS.out.more hq).at htl
                    have HGQ := Lib.hid hq
                    have HTL := Lib.hid htl
                    obtain ⟨_, _, _, hx1, hx2⟩ := HRS.out.ctor
                    have hll : r.s.length ≤ 9223372036854775807 := by omega
                    clear hx1 hx2
                    clear hnc hI u0 u1 hz
                    go_wp2_with fail
                    have htl2 := HTL.out
                    exact ⟨⟨t + 1, _, htl2, by go_num, rfl, w64_in _, HGQ.out⟩, by simp only [intOf]; omega⟩
                  · skip
                    have HGQ := Lib.hid hq
                    have HZ3 := Lib.hid hz
                    go_wp2_with fail
                    exact ⟨⟨2 + 1, z, by omega, by go_num, rfl, HZ3.out, HGQ.out⟩, by simp [intOf] <;> omega⟩
                · skip
                  have HGQ := Lib.hid hq
                  have HZ3 := Lib.hid hz
                  go_wp2_with fail
                  exact ⟨⟨2 + 1, z, by omega, by go_num, rfl, HZ3.out, HGQ.out⟩, by simp [intOf] <;> omega⟩
          · obtain rfl : j = 3 := by omega
            clear hz hq
            go_wp2_with fail
            exact ⟨⟨k + 1, z, by have := HLT.out; omega, by go_num, rfl, HZ2.out, gb_trans HGB.out HQ2.out⟩, by have := HLT.out; simp [intOf]; omega⟩
      · go_wp2_with fail
        go_ret
        exact ⟨.inr rfl, gb_trans HGW.out hg⟩
    · go_wp2_with fail
      go_ret
      first | exact ⟨decide (4000 ≤ z), rfl, gb_trans HGW.out hg⟩ | exact ⟨decide ((4000 : Int) ≤ z), by simp, gb_trans HGW.out hg⟩ | exact ⟨rfl, gb_trans HGW.out hg⟩

end Go.Proofs.YtmfmfpmkgmkgiaaGreatDoor

namespace Go.Proofs.YtmfmfpmkgmkgiaaGreatDoor
open Go.RowKit Go.ChangeShapes Go.WideShapes Go.Deep

section
variable {H : Type} {enc : TypeId × Value → H} {P : Program} {w : World} {base : Nat} {spare : Nat → Bool} {held : Bool}
theorem bulk_part {d : DataW H} : ∀ {l : List (DataW H)}, d ∈ l → Rows.uptoBulk d ≤ Rows.uptoBulkAll l
  | x :: r, h => by
    simp only [Rows.uptoBulkAll]
    rcases List.mem_cons.1 h with rfl | h
    · omega
    · have := bulk_part h; omega
theorem bulk_one (d : DataW H) : 1 ≤ Rows.uptoBulk d := by
  cases d with
  | lit l => cases l <;> simp [Rows.uptoBulk]
  | _ => simp [Rows.uptoBulk]
theorem bulk_len : ∀ l : List (DataW H), l.length ≤ Rows.uptoBulkAll l
  | [] => by simp [Rows.uptoBulkAll]
  | d :: r => by have := bulk_one d; have := bulk_len r; simp only [Rows.uptoBulkAll, List.length_cons]; omega
theorem rb_struct {t : TypeId} {fs : Array Field} {fuel : Nat} {cs : List Value} {x : DataW H × List MemPlace} (ht : P.underlying t = some (.struct fs)) (h : DataW.trod enc P w base spare held fuel t cs = some x) :
    ∃ n, cs.length = P.cellsOf t ∧ ∀ (i : Nat) (f : Field), fs[i]? = some f → ∃ y, DataW.trod enc P w base spare held n f.type ((cs.drop f.offset).take (P.cellsOf f.type)) = some y ∧ Rows.uptoBulk y.1 ≤ Rows.uptoBulk x.1 := by
  obtain ⟨xs, n, _, rfl, hl, hlen, hf⟩ := DataW.trod_struct ht h
  refine ⟨n, hl, fun i f hi => ?_⟩
  have hlt : i < fs.size := (Array.getElem?_eq_some_iff.1 hi).1
  refine ⟨xs[i]'(by omega), by rw [hf i f hi, List.getElem?_eq_getElem (by omega)], ?_⟩
  simp only [Rows.uptoBulk]
  exact Nat.le_succ_of_le (bulk_part (List.mem_map.2 ⟨_, List.getElem_mem _, rfl⟩))
theorem rb_field {fs : Array Field} {cs : List Value} {n m : Nat} (h : ∀ (i : Nat) (f : Field), fs[i]? = some f → ∃ y, DataW.trod enc P w base spare held n f.type ((cs.drop f.offset).take (P.cellsOf f.type)) = some y ∧ Rows.uptoBulk y.1 ≤ m)
    (i : Nat) {f : Field} (hi : fs[i]? = some f) {tt : TypeId} {o k : Nat} (ht : f.type = tt) (ho : f.offset = o) (hk : P.cellsOf tt = k) : ∃ y, DataW.trod enc P w base spare held n tt ((cs.drop o).take k) = some y ∧ Rows.uptoBulk y.1 ≤ m := by
  subst ht ho hk
  exact h i f hi
theorem rb_list {α : Type} (d : α) {t e : TypeId} {k : Nat} (ht : P.underlying t = some (.slice e)) (hc : P.cellsOf e = k) (hk : 0 < k) (p : List Value → α → Nat → Prop) (hmono : ∀ cs y a b, a ≤ b → p cs y a → p cs y b)
    {fuel : Nat} {cs : List Value} {x : DataW H × List MemPlace} (hp : ∀ n cs x, DataW.trod enc P w base spare held n e cs = some x → ∃ y, p cs y (Rows.uptoBulk x.1)) (h : DataW.trod enc P w base spare held fuel t cs = some x) :
    ∃ (A : Option Addr) (l : List α) (cap : Nat), cs = [.slice A l.length cap] ∧ l.length ≤ cap ∧ cap ≤ 9223372036854775807 ∧ (A = none → cap = 0) ∧ l.length ≤ Rows.uptoBulk x.1 ∧
      (0 < l.length → ∃ b o, A = some ⟨b, o, none⟩ ∧ ∀ i, i < l.length → ∃ cs', cs'.length = k ∧ p cs' (l.getD i d) (Rows.uptoBulk x.1) ∧ ∀ j, j < k → w.cell? ⟨b, o + i * k + j, none⟩ = cs'[j]?) := by
  rcases open_slice ht h with ⟨rfl, _⟩ | ⟨a, len, cap, m, n, D, Pl, rfl, hb, hl, hm, hmm, rfl, hx⟩
  · exact ⟨none, [], 0, rfl, Nat.le_refl _, by omega, fun _ => rfl, by simp, fun h => by simp at h⟩
  · have hlm : len ≤ m := by rw [hmm]; split <;> omega
    rw [hc] at hx
    have hbk : ∀ i, i < len → Rows.uptoBulk (D i) ≤ Rows.uptoBulk (.slice ((List.range len).map D) ((List.range (m - len)).map fun j => D (len + j))) := fun i hi => by
      have := bulk_part (H := H) (List.mem_map.2 ⟨i, List.mem_range.2 hi, rfl⟩ : D i ∈ (List.range len).map D)
      simp only [Rows.uptoBulk]; omega
    have hbl : len ≤ Rows.uptoBulk (.slice ((List.range len).map D) ((List.range (m - len)).map fun j => D (len + j))) := by
      have := bulk_len ((List.range len).map D)
      simp only [Rows.uptoBulk]; simp at this; omega
    obtain ⟨l, hll, hpl⟩ := list_lt (α := α) (p := fun i y => ∃ cs', cs'.length = k ∧ p cs' y (Rows.uptoBulk (.slice ((List.range len).map D) ((List.range (m - len)).map fun j => D (len + j)))) ∧ ∀ j, j < k → w.cell? ((a.add (i * k)).add j) = cs'[j]?) d (n := len) (fun i hi => by
      obtain ⟨cs', h1, h2⟩ := hx i (by omega)
      obtain ⟨y, hy⟩ := hp _ _ _ h2
      obtain ⟨_, h3, h4⟩ := World.cells?_some h1
      exact ⟨y, cs', h3, hmono _ _ _ _ (hbk i hi) hy, h4⟩)
    subst hll
    refine ⟨some a, l, cap, rfl, hl, by simpa [maxLen] using hm, (fun h => by cases h), hbl, fun hpos => ?_⟩
    obtain ⟨b, off, spot⟩ := a
    obtain ⟨cs0, h3, _, h4⟩ := hpl 0 hpos
    have h5 := h4 0 hk
    rw [List.getElem?_eq_getElem (by omega)] at h5
    have hspot : spot = none := by simpa [Addr.add] using World.cell?_spot h5
    subst hspot
    refine ⟨b, off, rfl, fun i hi => ?_⟩
    obtain ⟨cs', h6, h7, h8⟩ := hpl i hi
    refine ⟨cs', h6, h7, fun j hj => ?_⟩
    rw [← h8 j hj, add_plain, add_plain]
theorem rb_strs {t e : TypeId} (ht : P.underlying t = some (.slice e)) (he : P.underlying e = some .string) (hc : P.cellsOf e = 1) {fuel : Nat} {cs : List Value} {x : DataW H × List MemPlace}
    (h : DataW.trod enc P w base spare held fuel t cs = some x) : ∃ A l c, cs = [.slice A (l : List ByteArray).length c] ∧ Row w (.slice A l.length c) (strs l) ∧ l.length ≤ Rows.uptoBulk x.1 ∧ ∀ s ∈ l, s.size ≤ Rows.uptoBulk x.1 := by
  obtain ⟨A, l, cap, rfl, h1, h2, h3, h5, h4⟩ := rb_list (α := ByteArray) default ht hc (by omega) (fun cs y m => cs = [.string y] ∧ y.size ≤ m) (fun cs y a b hab hy => ⟨hy.1, by omega⟩) (fun n cs x hx => by
    obtain ⟨s, rfl, rfl, _⟩ := DataW.trod_string he hx
    exact ⟨s, rfl, by simp only [Rows.uptoBulk, Array.length_toList]; exact Nat.le_succ _⟩) h
  have hget : ∀ i (hi : i < l.length), l.getD i default = l[i] := fun i hi => by rw [List.getD_eq_getElem?_getD, List.getElem?_eq_getElem hi]; rfl
  refine ⟨A, l, cap, rfl, ?_, h5, fun s hs => ?_⟩
  · by_cases hp : 0 < l.length
    · obtain ⟨b, o, rfl, hcell⟩ := h4 hp
      refine Row.mk (by rw [strs_length]) (by rw [strs_length]; exact h1) h2 fun i hi => ?_
      rw [strs_length] at hi
      obtain ⟨cs', _, ⟨rfl, _⟩, hj⟩ := hcell i hi
      have := hj 0 (by omega)
      rw [Nat.mul_one, Nat.add_zero] at this
      rw [this, strs_get l i hi]; rfl
    · obtain rfl : l = [] := List.eq_nil_of_length_eq_zero (by omega)
      exact Row.empty w h2 h3
  · obtain ⟨i, hi, rfl⟩ := List.getElem_of_mem hs
    obtain ⟨b, o, _, hcell⟩ := h4 (by omega)
    obtain ⟨cs', _, ⟨_, hlt⟩, _⟩ := hcell i hi
    rw [hget i hi] at hlt
    exact hlt
theorem rb_ints {t e : TypeId} (ht : P.underlying t = some (.slice e)) (he : P.underlying e = some (.int .i64)) (hc : P.cellsOf e = 1) {fuel : Nat} {cs : List Value} {x : DataW H × List MemPlace}
    (h : DataW.trod enc P w base spare held fuel t cs = some x) : ∃ A l c, cs = [.slice A (l : List Int).length c] ∧ IntRow w (.slice A l.length c) l ∧ l.length ≤ Rows.uptoBulk x.1 := by
  obtain ⟨v, l, rfl, hr, hl⟩ := rd_ints ht he hc h
  obtain ⟨A, c, rfl, _⟩ := hr.ctor
  refine ⟨A, l, c, rfl, hr, ?_⟩
  rcases hl with rfl | ⟨es, sp, e1, e2⟩
  · simp
  · rw [e1, ← e2]; have := bulk_len es; simp only [Rows.uptoBulk]; omega
theorem rd_i64 {t : TypeId} (he : P.underlying t = some (.int .i64)) {fuel : Nat} {c : Value} {x : DataW H × List MemPlace} (h : DataW.trod enc P w base spare held fuel t [c] = some x) : ∃ z, c = .int .i64 z ∧ I64 z := by
  obtain ⟨z, hz, _, hw⟩ := DataW.trod_int he h
  injection hz with hz
  exact ⟨z, hz, by have : -9223372036854775808 ≤ z ∧ z ≤ 9223372036854775807 := by simpa [Lit.wf, IntKind.min, IntKind.max, IntKind.signed, IntKind.bits] using hw
                   exact this⟩
theorem rd_u8 {t : TypeId} (he : P.underlying t = some (.int .u8)) {fuel : Nat} {c : Value} {x : DataW H × List MemPlace} (h : DataW.trod enc P w base spare held fuel t [c] = some x) : ∃ z, c = .int .u8 z ∧ 0 ≤ z ∧ z ≤ 255 := by
  obtain ⟨z, hz, _, hw⟩ := DataW.trod_int he h
  injection hz with hz
  have : 0 ≤ z ∧ z ≤ 255 := by simpa [Lit.wf, IntKind.min, IntKind.max, IntKind.signed, IntKind.bits] using hw
  exact ⟨z, hz, this.1, this.2⟩
end

section
variable {H : Type} {enc : TypeId × Value → H} {w : World} {base : Nat} {spare : Nat → Bool} {held : Bool}
theorem rc_u8 : Tryz.prog.cellsOf 5 = 1 := by kernel_rfl
theorem rc_str : Tryz.prog.cellsOf 9 = 1 := by kernel_rfl
theorem rc_strs : Tryz.prog.cellsOf 22 = 1 := by kernel_rfl
theorem rc_ints : Tryz.prog.cellsOf 30 = 1 := by kernel_rfl
theorem rc_i64' : Tryz.prog.cellsOf 2 = 1 := by kernel_rfl
theorem rc_Num : Tryz.prog.cellsOf 25 = 2 := by kernel_rfl
theorem rc_Nums : Tryz.prog.cellsOf 83 = 1 := by kernel_rfl
theorem rc_Wave : Tryz.prog.cellsOf 85 = 3 := by kernel_rfl
theorem rc_Model : Tryz.prog.cellsOf 87 = 4 := by kernel_rfl
theorem rc_Dev : Tryz.prog.cellsOf 89 = 13 := by kernel_rfl
theorem rc_Devs : Tryz.prog.cellsOf 23 = 1 := by kernel_rfl
theorem rc_Flat : Tryz.prog.cellsOf 27 = 5 := by kernel_rfl
theorem rc_Setting : Tryz.prog.cellsOf 29 = 4 := by kernel_rfl

set_option maxRecDepth 100000 in
theorem rd_Num {fuel : Nat} {cs : List Value} {x : DataW H × List MemPlace} (h : DataW.trod enc Tryz.prog w base spare held fuel 25 cs = some x) : ∃ p : Int × Int, cs = [.int .i64 p.1, .int .i64 p.2] ∧ I64 p.1 ∧ I64 p.2 := by
  obtain ⟨n, hl, hf⟩ := rd_struct Tryz.underlying25 h
  rw [rc_Num] at hl
  match cs, hl with
  | [c0, c1], _ =>
  obtain ⟨y0, h0⟩ := rd_field hf 0 rfl (tt := 2) (o := 0) rfl rfl rc_i64'
  have h0 : DataW.trod enc Tryz.prog w base spare held n 2 [c0] = some y0 := h0
  obtain ⟨y1, h1⟩ := rd_field hf 1 rfl (tt := 3) (o := 1) rfl rfl rc_int
  have h1 : DataW.trod enc Tryz.prog w base spare held n 3 [c1] = some y1 := h1
  obtain ⟨a, rfl, ia⟩ := rd_i64 Tryz.underlying2 h0
  obtain ⟨b, rfl, ib⟩ := rd_i64 Tryz.underlying3 h1
  exact ⟨(a, b), rfl, ia, ib⟩
theorem rb_Nums {fuel : Nat} {cs : List Value} {x : DataW H × List MemPlace} (h : DataW.trod enc Tryz.prog w base spare held fuel 83 cs = some x) : ∃ A l c, cs = [.slice A (l : List (Int × Int)).length c] ∧ NumRow w (.slice A l.length c) l ∧ l.length ≤ Rows.uptoBulk x.1 := by
  obtain ⟨A, l, cap, rfl, h1, h2, h3, h5, h4⟩ := rb_list (α := Int × Int) (0, 0) Tryz.underlying83 rc_Num (by omega) (fun cs p _ => cs = [.int .i64 p.1, .int .i64 p.2] ∧ I64 p.1 ∧ I64 p.2) (fun cs y a b hab hy => hy) (fun n cs x hx => rd_Num hx) h
  refine ⟨A, l, cap, rfl, ⟨A, cap, rfl, h1, h2, fun p hp => ?_, fun hp => ?_⟩, h5⟩
  · obtain ⟨i, hi, rfl⟩ := List.getElem_of_mem hp
    obtain ⟨b, o, _, hcell⟩ := h4 (by omega)
    obtain ⟨cs', _, ⟨_, hlt⟩, _⟩ := hcell i hi
    rw [List.getD_eq_getElem?_getD, List.getElem?_eq_getElem hi] at hlt
    exact hlt
  · obtain ⟨b, o, rfl, hcell⟩ := h4 hp
    refine ⟨b, o, rfl, fun i hi => ?_⟩
    obtain ⟨cs', _, ⟨rfl, _⟩, hj⟩ := hcell i hi
    exact ⟨hj 0 (by omega), hj 1 (by omega)⟩
set_option maxRecDepth 100000 in
theorem rb_Wave {fuel : Nat} {cs : List Value} {x : DataW H × List MemPlace} (h : DataW.trod enc Tryz.prog w base spare held fuel 85 cs = some x) : ∃ k A1 l1 c1 A2 l2 c2, cs = [.int .i64 k, .slice A1 (l1 : List (Int × Int)).length c1, .slice A2 (l2 : List Int).length c2] ∧ I64 k ∧ NumRow w (.slice A1 l1.length c1) l1 ∧ IntRow w (.slice A2 l2.length c2) l2 ∧ l1.length ≤ Rows.uptoBulk x.1 ∧ l2.length ≤ Rows.uptoBulk x.1 := by
  obtain ⟨n, hl, hf⟩ := rb_struct Tryz.underlying85 h
  rw [rc_Wave] at hl
  match cs, hl with
  | [c0, c1, c2], _ =>
  obtain ⟨y0, h0, _⟩ := rb_field hf 0 rfl (tt := 3) (o := 0) rfl rfl rc_int
  have h0 : DataW.trod enc Tryz.prog w base spare held n 3 [c0] = some y0 := h0
  obtain ⟨y1, h1, b1⟩ := rb_field hf 1 rfl (tt := 83) (o := 1) rfl rfl rc_Nums
  have h1 : DataW.trod enc Tryz.prog w base spare held n 83 [c1] = some y1 := h1
  obtain ⟨y2, h2, b2⟩ := rb_field hf 2 rfl (tt := 30) (o := 2) rfl rfl rc_ints
  have h2 : DataW.trod enc Tryz.prog w base spare held n 30 [c2] = some y2 := h2
  obtain ⟨k, rfl, ik⟩ := rd_i64 Tryz.underlying3 h0
  obtain ⟨A1, l1, k1, e1, r1, m1⟩ := rb_Nums h1
  obtain ⟨A2, l2, k2, e2, r2, m2⟩ := rb_ints Tryz.underlying30 Tryz.underlying3 rc_int h2
  injection e1 with e1
  injection e2 with e2
  subst e1 e2
  exact ⟨k, A1, l1, k1, A2, l2, k2, rfl, ik, r1, r2, Nat.le_trans m1 b1, Nat.le_trans m2 b2⟩
set_option maxRecDepth 100000 in
theorem rb_Model {fuel : Nat} {cs : List Value} {x : DataW H × List MemPlace} (h : DataW.trod enc Tryz.prog w base spare held fuel 87 cs = some x) : ∃ s k A1 l1 c1 A2 l2 c2, cs = [.string s, .int .u8 k, .slice A1 (l1 : List (Int × Int)).length c1, .slice A2 (l2 : List (Int × Int)).length c2] ∧ (0 ≤ k ∧ k ≤ 255) ∧ NumRow w (.slice A1 l1.length c1) l1 ∧ NumRow w (.slice A2 l2.length c2) l2 ∧ l1.length ≤ Rows.uptoBulk x.1 ∧ l2.length ≤ Rows.uptoBulk x.1 := by
  obtain ⟨n, hl, hf⟩ := rb_struct Tryz.underlying87 h
  rw [rc_Model] at hl
  match cs, hl with
  | [c0, c1, c2, c3], _ =>
  obtain ⟨y0, h0, _⟩ := rb_field hf 0 rfl (tt := 9) (o := 0) rfl rfl rc_str
  have h0 : DataW.trod enc Tryz.prog w base spare held n 9 [c0] = some y0 := h0
  obtain ⟨y1, h1, _⟩ := rb_field hf 1 rfl (tt := 5) (o := 1) rfl rfl rc_u8
  have h1 : DataW.trod enc Tryz.prog w base spare held n 5 [c1] = some y1 := h1
  obtain ⟨y2, h2, b2⟩ := rb_field hf 2 rfl (tt := 83) (o := 2) rfl rfl rc_Nums
  have h2 : DataW.trod enc Tryz.prog w base spare held n 83 [c2] = some y2 := h2
  obtain ⟨y3, h3, b3⟩ := rb_field hf 3 rfl (tt := 83) (o := 3) rfl rfl rc_Nums
  have h3 : DataW.trod enc Tryz.prog w base spare held n 83 [c3] = some y3 := h3
  obtain ⟨s, e0, _⟩ := DataW.trod_string Tryz.underlying9 h0
  obtain ⟨k, rfl, k0, k1⟩ := rd_u8 Tryz.underlying5 h1
  obtain ⟨A1, l1, d1, e1, r1, m1⟩ := rb_Nums h2
  obtain ⟨A2, l2, d2, e2, r2, m2⟩ := rb_Nums h3
  injection e0 with e0
  injection e1 with e1
  injection e2 with e2
  subst e0 e1 e2
  exact ⟨s, k, A1, l1, d1, A2, l2, d2, rfl, ⟨k0, k1⟩, r1, r2, Nat.le_trans m1 b2, Nat.le_trans m2 b3⟩
set_option maxRecDepth 100000 in
theorem rb_Dev {fuel : Nat} {cs : List Value} {x : DataW H × List MemPlace} (h : DataW.trod enc Tryz.prog w base spare held fuel 89 cs = some x) : ∃ d : DevP, Rows.uptoBulk x.1 ≤ 1048576 → DevV w cs d := by
  obtain ⟨n, hl, hf⟩ := rb_struct Tryz.underlying89 h
  rw [rc_Dev] at hl
  match cs, hl with
  | [c0, c1, c2, c3, c4, c5, c6, c7, c8, c9, c10, c11, c12], _ =>
  obtain ⟨y0, h0, _⟩ := rb_field hf 0 rfl (tt := 5) (o := 0) rfl rfl rc_u8
  have h0 : DataW.trod enc Tryz.prog w base spare held n 5 [c0] = some y0 := h0
  obtain ⟨y1, h1, b1⟩ := rb_field hf 1 rfl (tt := 9) (o := 1) rfl rfl rc_str
  have h1 : DataW.trod enc Tryz.prog w base spare held n 9 [c1] = some y1 := h1
  obtain ⟨y2, h2, b2⟩ := rb_field hf 2 rfl (tt := 30) (o := 2) rfl rfl rc_ints
  have h2 : DataW.trod enc Tryz.prog w base spare held n 30 [c2] = some y2 := h2
  obtain ⟨y3, h3, _⟩ := rb_field hf 3 rfl (tt := 3) (o := 3) rfl rfl rc_int
  have h3 : DataW.trod enc Tryz.prog w base spare held n 3 [c3] = some y3 := h3
  obtain ⟨y4, h4, _⟩ := rb_field hf 4 rfl (tt := 25) (o := 4) rfl rfl rc_Num
  have h4 : DataW.trod enc Tryz.prog w base spare held n 25 [c4, c5] = some y4 := h4
  obtain ⟨y5, h5, b5⟩ := rb_field hf 5 rfl (tt := 85) (o := 6) rfl rfl rc_Wave
  have h5 : DataW.trod enc Tryz.prog w base spare held n 85 [c6, c7, c8] = some y5 := h5
  obtain ⟨y6, h6, b6⟩ := rb_field hf 6 rfl (tt := 87) (o := 9) rfl rfl rc_Model
  have h6 : DataW.trod enc Tryz.prog w base spare held n 87 [c9, c10, c11, c12] = some y6 := h6
  obtain ⟨kd, rfl, k0, k1⟩ := rd_u8 Tryz.underlying5 h0
  obtain ⟨nm, e1, ex, _⟩ := DataW.trod_string Tryz.underlying9 h1
  obtain ⟨An, ln, cn, e2, rn, mn⟩ := rb_ints Tryz.underlying30 Tryz.underlying3 rc_int h2
  obtain ⟨rf, rfl, ir⟩ := rd_i64 Tryz.underlying3 h3
  obtain ⟨p, e4, i1, i2⟩ := rd_Num h4
  obtain ⟨wk, Av, lv, cv, As, ls, cs', e5, iw, rv, rs, mv, ms⟩ := rb_Wave h5
  obtain ⟨mm, mk, Ag, lg, cg, Am, lm, cm, e6, im, rg, rm, mg, mmv⟩ := rb_Model h6
  subst ex
  simp only [Rows.uptoBulk, Array.length_toList] at b1
  injection e1 with e1
  injection e2 with e2
  injection e4 with e4 e4'
  injection e4' with e4'
  injection e5 with e5 e5'
  injection e5' with e5' e5''
  injection e5'' with e5''
  injection e6 with e6 e6'
  injection e6' with e6' e6''
  injection e6'' with e6'' e6'''
  injection e6''' with e6'''
  subst e1 e2 e4 e4' e5 e5' e5'' e6 e6' e6'' e6'''
  exact ⟨⟨kd, nm, ln, rf, p, wk, lv, ls, mm, mk, lg, lm⟩, fun hb => ⟨⟨k0, k1⟩, im, ir, i1, i2, iw, by have : nm.data.size = nm.size := rfl; show nm.size < 4294967281; omega, ⟨by show ln.length ≤ _; omega, by show lv.length ≤ _; omega, by show ls.length ≤ _; omega, by show lg.length ≤ _; omega, by show lm.length ≤ _; omega⟩, _, _, _, _, _, rfl, rn, rv, rs, rg, rm⟩⟩
theorem rb_Devs {fuel : Nat} {cs : List Value} {x : DataW H × List MemPlace} (h : DataW.trod enc Tryz.prog w base spare held fuel 23 cs = some x) (hb : Rows.uptoBulk x.1 ≤ 1048576) : ∃ A l c, cs = [.slice A (l : List DevP).length c] ∧ DevRow w (.slice A l.length c) l ∧ l.length ≤ Rows.uptoBulk x.1 := by
  obtain ⟨A, l, cap, rfl, h1, h2, h3, h5, h4⟩ := rb_list (α := DevP) dev0 Tryz.underlying23 rc_Dev (by omega) (fun cs d m => m ≤ 1048576 → DevV w cs d) (fun cs y a b hab hy hm => hy (by omega)) (fun n cs x hx => rb_Dev hx) h
  refine ⟨A, l, cap, rfl, ⟨A, cap, rfl, h1, h2, fun hp => ?_⟩, h5⟩
  obtain ⟨b, o, rfl, hcell⟩ := h4 hp
  refine ⟨b, o, rfl, fun i hi => ?_⟩
  obtain ⟨cs', _, hd, hj⟩ := hcell i hi
  exact ⟨cs', hd hb, hj⟩
set_option maxRecDepth 100000 in
theorem rb_Flat {fuel : Nat} {cs : List Value} {x : DataW H × List MemPlace} (h : DataW.trod enc Tryz.prog w base spare held fuel 27 cs = some x) (hb : Rows.uptoBulk x.1 ≤ 1048576) : ∃ (f : FlatP) (A1 : Option Addr) (c1 : Nat) (A2 : Option Addr) (c2 : Nat), cs = [.slice A1 f.nodes.length c1, .slice A2 f.devs.length c2, .int .i64 f.step.1, .int .i64 f.step.2, .int .i64 f.method] ∧ FlatAt w f A1 c1 A2 c2 := by
  obtain ⟨n, hl, hf⟩ := rb_struct Tryz.underlying27 h
  rw [rc_Flat] at hl
  match cs, hl with
  | [c0, c1, c2, c3, c4], _ =>
  obtain ⟨y0, h0, b0⟩ := rb_field hf 0 rfl (tt := 22) (o := 0) rfl rfl rc_strs
  have h0 : DataW.trod enc Tryz.prog w base spare held n 22 [c0] = some y0 := h0
  obtain ⟨y1, h1, b1⟩ := rb_field hf 1 rfl (tt := 23) (o := 1) rfl rfl rc_Devs
  have h1 : DataW.trod enc Tryz.prog w base spare held n 23 [c1] = some y1 := h1
  obtain ⟨y2, h2, _⟩ := rb_field hf 2 rfl (tt := 25) (o := 2) rfl rfl rc_Num
  have h2 : DataW.trod enc Tryz.prog w base spare held n 25 [c2, c3] = some y2 := h2
  obtain ⟨y3, h3, _⟩ := rb_field hf 3 rfl (tt := 3) (o := 4) rfl rfl rc_int
  have h3 : DataW.trod enc Tryz.prog w base spare held n 3 [c4] = some y3 := h3
  obtain ⟨A1, l1, k1, e0, r1, m1, s1⟩ := rb_strs Tryz.underlying22 Tryz.underlying9 rc_str h0
  obtain ⟨A2, l2, k2, e1, r2, m2⟩ := rb_Devs h1 (Nat.le_trans b1 hb)
  obtain ⟨p, e2, i1, i2⟩ := rd_Num h2
  obtain ⟨me, rfl, im⟩ := rd_i64 Tryz.underlying3 h3
  injection e0 with e0
  injection e1 with e1
  injection e2 with e2 e2'
  injection e2' with e2'
  subst e0 e1 e2 e2'
  exact ⟨⟨l1, l2, p, me⟩, A1, k1, A2, k2, rfl, r1, fun s hs => by have := s1 s hs; omega, r2, i1, i2, im, by show l1.length ≤ _; omega, by show l2.length ≤ _; omega⟩
set_option maxRecDepth 100000 in
theorem rd_Setting {fuel : Nat} {cs : List Value} {x : DataW H × List MemPlace} (h : DataW.trod enc Tryz.prog w base spare held fuel 29 cs = some x) : ∃ mode method t1 t2, cs = [.int .i64 mode, .int .i64 method, .int .i64 t1, .int .i64 t2] ∧ I64 t1 ∧ I64 t2 := by
  obtain ⟨n, hl, hf⟩ := rd_struct Tryz.underlying29 h
  rw [rc_Setting] at hl
  match cs, hl with
  | [c0, c1, c2, c3], _ =>
  obtain ⟨y0, h0⟩ := rd_field hf 0 rfl (tt := 3) (o := 0) rfl rfl rc_int
  have h0 : DataW.trod enc Tryz.prog w base spare held n 3 [c0] = some y0 := h0
  obtain ⟨y1, h1⟩ := rd_field hf 1 rfl (tt := 3) (o := 1) rfl rfl rc_int
  have h1 : DataW.trod enc Tryz.prog w base spare held n 3 [c1] = some y1 := h1
  obtain ⟨y2, h2⟩ := rd_field hf 2 rfl (tt := 25) (o := 2) rfl rfl rc_Num
  have h2 : DataW.trod enc Tryz.prog w base spare held n 25 [c2, c3] = some y2 := h2
  obtain ⟨a, rfl, _⟩ := rd_i64 Tryz.underlying3 h0
  obtain ⟨b, rfl, _⟩ := rd_i64 Tryz.underlying3 h1
  obtain ⟨p, e2, i1, i2⟩ := rd_Num h2
  injection e2 with e2 e2'
  injection e2' with e2'
  subst e2 e2'
  exact ⟨a, b, p.1, p.2, rfl, i1, i2⟩
end
end Go.Proofs.YtmfmfpmkgmkgiaaGreatDoor

namespace Go.Proofs.YtmfmfpmkgmkgiaaGreatDoor
open Go.RowKit Go.Maps
open Rat

theorem whole_mul {q : Rat} {m t : Nat} (h : m = q.den * t) : wholeZ q m = q.num * (t : Int) := by
  unfold wholeZ
  subst h
  rw [Int.natCast_mul, Int.mul_left_comm]
  exact Int.mul_tdiv_cancel_left _ (by have := q.den_pos; omega)
theorem least_one {L : List StampP} {r m : Nat} (h : IsMult L r m) (g : Nat) (hg : g ∣ m) (hz : ∀ k c, k < 5 → hasQ L (r * 5 + k) c = true → (g : Int) ∣ wholeZ (accQ L (r * 5 + k) c) m) : g = 1 := by
  have hm := h.pos
  have hg0 : 0 < g := Nat.pos_of_dvd_of_pos hg hm
  have hd : m ∣ m / g := h.2 _ fun k c hk hh => by
    obtain ⟨t, ht⟩ := h.1 k c hk hh
    have h1 := hz k c hk hh
    rw [whole_mul ht] at h1
    generalize accQ L (r * 5 + k) c = q at *
    have h2 : g ∣ q.num.natAbs * t := by
      have := Int.natAbs_dvd_natAbs.2 h1
      rwa [Int.natAbs_mul, Int.natAbs_natCast, Int.natAbs_natCast] at this
    have h3 : g ∣ q.den * t := ht ▸ hg
    have h4 : g ∣ t := by
      have := Nat.dvd_gcd h2 h3
      rwa [Nat.gcd_mul_right, q.reduced.gcd_eq_one, Nat.one_mul] at this
    obtain ⟨s, rfl⟩ := h4
    refine ⟨s, ?_⟩
    rw [ht, Nat.mul_left_comm, Nat.mul_div_cancel_left _ hg0]
  have h5 := Nat.le_of_dvd (Nat.div_pos (Nat.le_of_dvd hm hg) hg0) hd
  rcases Nat.lt_or_ge g 2 with h6 | h6
  · omega
  · have := Nat.div_lt_self hm h6; omega
def gcdCells (d : Nat) : List CellP → Nat
  | [] => d
  | c :: l => gcdCells (Nat.gcd d (val 4294967296 c.limbs)) l
theorem gcdCells_dvd : ∀ (l : List CellP) (d : Nat), gcdCells d l ∣ d ∧ ∀ c ∈ l, gcdCells d l ∣ val 4294967296 c.limbs
  | [], d => ⟨Nat.dvd_refl _, by simp⟩
  | c :: l, d => by
    obtain ⟨h1, h2⟩ := gcdCells_dvd l (Nat.gcd d (val 4294967296 c.limbs))
    refine ⟨Nat.dvd_trans h1 (Nat.gcd_dvd_left _ _), fun x hx => ?_⟩
    rcases List.mem_cons.1 hx with rfl | hx
    · exact Nat.dvd_trans h1 (Nat.gcd_dvd_right _ _)
    · exact h2 x hx
theorem gcdCells_snoc : ∀ (l : List CellP) (d : Nat) (c : CellP), gcdCells d (l ++ [c]) = Nat.gcd (gcdCells d l) (val 4294967296 c.limbs)
  | [], _, _ => rfl
  | x :: l, d, c => by rw [List.cons_append, gcdCells, gcdCells, gcdCells_snoc l]
def rowG (r : RowP) : Nat := gcdCells (gcdCells (gcdCells (Nat.gcd (val 4294967296 r.mlimbs) (val 4294967296 r.klimbs)) r.a) r.h) r.s
def StOK (L : List StampP) (n : Nat) : Prop := ∀ x ∈ L, 0 ≤ x.row ∧ 0 ≤ x.col ∧ ((x.kind = 1 ∧ x.col < n) ∨ (x.kind = 2 ∧ x.col < n) ∨ (x.kind = 3 ∧ x.col < 64) ∨ (x.kind = 4 ∧ x.col = 0))
theorem StOK.of {L : List StampP} {n r k : Nat} {c : Int} (h : StOK L n) (hk : k < 5) (hh : hasQ L (r * 5 + k) c = true) : 0 ≤ c ∧ ((k = 1 ∧ c < n) ∨ (k = 2 ∧ c < n) ∨ (k = 3 ∧ c < 64) ∨ (k = 4 ∧ c = 0)) := by
  obtain ⟨x, hx, he⟩ := List.any_eq_true.1 hh
  obtain ⟨e1, e2⟩ := hitB_iff.1 he
  obtain ⟨h0, h1, h2⟩ := h x hx
  unfold StampP.cellAt at e1
  omega
theorem mem_cellsK {L : List StampP} {r k : Nat} {c : Int} (hh : hasQ L (r * 5 + k) c = true) (h0 : accQ L (r * 5 + k) c ≠ 0) : cellZ (c, wholeZ (accQ L (r * 5 + k) c) (multL L r)) ∈ cellsK L r k := by
  unfold cellsK cellsL
  refine List.mem_map.2 ⟨_, List.mem_filterMap.2 ⟨c, (mem_cols _ _ _).2 hh, ?_⟩, rfl⟩
  unfold cellOf; rw [if_neg h0]
theorem rowG_one {L : List StampP} {n : Nat} (h : StOK L n) (r : Nat) : rowG (rowOf L r) = 1 := by
  obtain ⟨s1, s2⟩ := gcdCells_dvd (rowOf L r).s (gcdCells (gcdCells (Nat.gcd (val 4294967296 (rowOf L r).mlimbs) (val 4294967296 (rowOf L r).klimbs)) (rowOf L r).a) (rowOf L r).h)
  obtain ⟨h1, h2⟩ := gcdCells_dvd (rowOf L r).h (gcdCells (Nat.gcd (val 4294967296 (rowOf L r).mlimbs) (val 4294967296 (rowOf L r).klimbs)) (rowOf L r).a)
  obtain ⟨a1, a2⟩ := gcdCells_dvd (rowOf L r).a (Nat.gcd (val 4294967296 (rowOf L r).mlimbs) (val 4294967296 (rowOf L r).klimbs))
  have e0 := Nat.dvd_trans s1 (Nat.dvd_trans h1 a1)
  refine least_one (multL_is L r) (rowG (rowOf L r)) ?_ fun k c hk hh => ?_
  · have h : rowG (rowOf L r) ∣ val 4294967296 (rowOf L r).mlimbs := Nat.dvd_trans e0 (Nat.gcd_dvd_left _ _)
    have e : val 4294967296 (rowOf L r).mlimbs = multL L r := by rw [show (rowOf L r).mlimbs = digs (multL L r : Nat) from rfl, val_digs, Int.natAbs_natCast]
    rwa [e] at h
  · by_cases hq : accQ L (r * 5 + k) c = 0
    · rw [hq, wholeZ_zero]; exact Int.dvd_zero _
    · have key : ∀ l, cellsK L r k = l → (∀ x ∈ l, rowG (rowOf L r) ∣ val 4294967296 x.limbs) → ((rowG (rowOf L r) : Nat) : Int) ∣ wholeZ (accQ L (r * 5 + k) c) (multL L r) := fun l hl h3 => by
        have := h3 _ (hl ▸ mem_cellsK hh hq)
        unfold cellZ at this
        rw [val_digs] at this
        exact Int.natAbs_dvd_natAbs.1 (by simpa using this)
      rcases (h.of hk hh).2 with ⟨rfl, _⟩ | ⟨rfl, _⟩ | ⟨rfl, _⟩ | ⟨rfl, rfl⟩
      · exact key _ rfl fun x hx => Nat.dvd_trans s1 (Nat.dvd_trans h1 (a2 x hx))
      · exact key _ rfl fun x hx => Nat.dvd_trans s1 (h2 x hx)
      · exact key _ rfl fun x hx => s2 x hx
      · have h : rowG (rowOf L r) ∣ val 4294967296 (rowOf L r).klimbs := Nat.dvd_trans e0 (Nat.gcd_dvd_right _ _)
        have e : val 4294967296 (rowOf L r).klimbs = (kOf L r).natAbs := by rw [show (rowOf L r).klimbs = digs (kOf L r) from rfl, val_digs]
        rw [e] at h
        exact Int.ofNat_dvd_left.2 h

theorem whole_ne {L : List StampP} {r k : Nat} {c : Int} (hk : k < 5) (hh : hasQ L (r * 5 + k) c = true) (h0 : accQ L (r * 5 + k) c ≠ 0) : wholeZ (accQ L (r * 5 + k) c) (multL L r) ≠ 0 := by
  obtain ⟨t, ht⟩ := (multL_is L r).1 k c hk hh
  rw [whole_mul ht]
  have hp := (multL_is L r).pos
  intro h1
  rcases Int.mul_eq_zero.1 h1 with h2 | h2
  · exact h0 (Rat.num_eq_zero.1 h2)
  · have : t = 0 := by omega
    rw [this] at ht; omega
theorem cellsL_spec {L : List StampP} {i m : Nat} {p : Int × Int} (h : p ∈ cellsL L i m) : hasQ L i p.1 = true ∧ accQ L i p.1 ≠ 0 ∧ p.2 = wholeZ (accQ L i p.1) m := by
  obtain ⟨c, hc, he⟩ := List.mem_filterMap.1 h
  unfold cellOf at he
  split at he
  · cases he
  · rename_i h0
    injection he with he
    subst he
    exact ⟨(mem_cols _ _ _).1 hc, h0, rfl⟩
theorem cellsL_rising (L : List StampP) (i m : Nat) : (cellsL L i m).Pairwise (fun a b => a.1 < b.1) := by
  unfold cellsL
  rw [List.pairwise_filterMap]
  refine (rising_cols L i).imp fun {a b} hab p hp q hq => ?_
  unfold cellOf at hp hq
  split at hp
  · cases hp
  · split at hq
    · cases hq
    · injection hp with hp; injection hq with hq; subst hp; subst hq; exact hab
theorem cellsK_ok {L : List StampP} {r k : Nat} {N : Int} (hk : k < 5) (hc : ∀ c, hasQ L (r * 5 + k) c = true → 0 ≤ c ∧ c < N) (hl : ∀ x ∈ cellsK L r k, x.limbs.length ≤ 72) : cellsOK N (cellsK L r k) := by
  intro i hi
  unfold cellOK
  have hi' : i < (cellsL L (r * 5 + k) (multL L r)).length := by simpa [cellsK] using hi
  have hg : ∀ j (hj : j < (cellsL L (r * 5 + k) (multL L r)).length), (cellsK L r k).getD j cell0 = cellZ ((cellsL L (r * 5 + k) (multL L r))[j]) := fun j hj => by
    rw [List.getD_eq_getElem?_getD, List.getElem?_eq_getElem (by simpa [cellsK] using hj)]
    simp [cellsK]
  have hm := hl _ (List.getElem_mem hi)
  have he : (cellsK L r k)[i] = cellZ ((cellsL L (r * 5 + k) (multL L r))[i]) := by simp [cellsK]
  rw [he] at hm
  obtain ⟨q1, q2, q3⟩ := cellsL_spec (List.getElem_mem hi')
  rw [hg i hi']
  refine ⟨(hc _ q1).1, (hc _ q1).2, fun h0 => ?_, ?_, ?_⟩
  · rw [hg (i - 1) (by omega)]
    exact List.pairwise_iff_getElem.1 (cellsL_rising L (r * 5 + k) (multL L r)) (i - 1) i (by omega) hi' (by omega)
  · exact intOK_digs _ hm
  · intro e
    have := (digs_eq_nil _).1 e
    rw [q3] at this
    exact whole_ne hk q1 q2 this
theorem wideB_all {L : List StampP} {r : Nat} (h : wideB L r = true) : (rowOf L r).mlimbs.length ≤ 72 ∧ (rowOf L r).klimbs.length ≤ 72 ∧ (∀ x ∈ (rowOf L r).a, x.limbs.length ≤ 72) ∧ (∀ x ∈ (rowOf L r).h, x.limbs.length ≤ 72) ∧ ∀ x ∈ (rowOf L r).s, x.limbs.length ≤ 72 := by
  unfold wideB at h
  rw [List.all_eq_true] at h
  have h' : ∀ x ∈ lensTo (rowOf L r) 3, x ≤ 72 := fun x hx => of_decide_eq_true (h x hx)
  have e : lensTo (rowOf L r) 3 = [(rowOf L r).mlimbs.length, (rowOf L r).klimbs.length] ++ lensOf (rowOf L r).a ++ lensOf (rowOf L r).h ++ lensOf (rowOf L r).s := rfl
  rw [e] at h'
  simp only [List.mem_append, List.mem_cons, List.not_mem_nil, or_false, lensOf, List.mem_map] at h'
  exact ⟨h' _ (.inl (.inl (.inl (.inl rfl)))), h' _ (.inl (.inl (.inl (.inr rfl)))), fun x hx => h' _ (.inl (.inl (.inr ⟨x, hx, rfl⟩))), fun x hx => h' _ (.inl (.inr ⟨x, hx, rfl⟩)), fun x hx => h' _ (.inr ⟨x, hx, rfl⟩)⟩
theorem rowOf_ok {L : List StampP} {n r : Nat} (h : StOK L n) (hw : wideB L r = true) : rowOK n (rowOf L r) := by
  obtain ⟨w1, w2, w3, w4, w5⟩ := wideB_all hw
  have hp := (multL_is L r).pos
  refine ⟨intOK_digs _ w1, (decide_eq_false (show ¬ ((multL L r : Nat) : Int) < 0 by omega) : decide (((multL L r : Nat) : Int) < 0) = false), fun e => ?_, intOK_digs _ w2, cellsK_ok (by omega) (fun c hc => ?_) w3, cellsK_ok (by omega) (fun c hc => ?_) w4, cellsK_ok (by omega) (fun c hc => ?_) w5⟩
  · have := (digs_eq_nil _).1 e; omega
  all_goals have := h.of (by omega) hc; omega
theorem rowsOf_ok {L : List StampP} {n : Nat} (h : StOK L n) (hn : n ≤ 48) (hw : ∀ r, r < n → wideB L r = true) : sysOK (rowsOf L n) := by
  refine ⟨by rw [rowsOf_length]; exact hn, fun i hi => ?_⟩
  rw [rowsOf_length] at hi ⊢
  rw [List.getD_eq_getElem?_getD, List.getElem?_eq_getElem (by rw [rowsOf_length]; exact hi)]
  simp only [rowsOf, List.getElem_map, List.getElem_range, Option.getD_some]
  exact rowOf_ok h (hw i hi)
theorem buildV_ok {L : List StampP} {n : Nat} (h : StOK L n) (hn : n ≤ 48) : sysE (buildV L n) = 0 := by
  unfold sysE
  refine if_pos ?_
  unfold buildV
  split
  · rename_i he
    refine rowsOf_ok h hn ?_
    unfold buildE at he
    split at he
    · assumption
    · omega
  · exact ⟨by simp, fun i hi => by simp at hi⟩

end Go.Proofs.YtmfmfpmkgmkgiaaGreatDoor

namespace Go.Proofs.YtmfmfpmkgmkgiaaGreatDoor
open Go.RowKit Go.Maps
open Rat

set_option maxHeartbeats 40000000 in
theorem h_calls (W0 w : World) (pb : Nat) (d : DevP) (An : Option Addr) (cn : Nat) (Av : Option Addr) (cv : Nat) (As : Option Addr) (cs : Nat) (Ag : Option Addr) (cg : Nat) (Am : Option Addr) (cm : Nat) (br : List Int) (k : Int) (L : List StampP) (h : PenS W0 w pb d An cn Av cv As cs Ag cg Am cm br k L) (row col : Int) (ir : I64 row) (ic : I64 col) (vb : Nat) (q : Rat) (hq : RatB w vb q) (lq : LimQ q 1099511627776) (hL : L.length ≤ 100000000) :
    Calls Tryz.prog 205 #[.pointer (some ⟨pb, 0, none⟩), .int .i64 row, .int .i64 col, .pointer (some ⟨vb, 0, none⟩)] w fun e w' => e = .returned (.tuple #[]) ∧ Hid (PenS W0 w' pb d An cn Av cv As cs Ag cg Am cm br k (L ++ put1 2 row col q) ∧ Keeps w w') := by
  have hP := put_calls W0 w pb d An cn Av cv As cs Ag cg Am cm br k L h 2 row col ⟨by omega, by omega⟩ ir ic vb q hq lq hL
  have HP := Lib.hid hP
  clear hP h hq lq
  go_enter Tryz.func205, Tryz.ntmps205
  go_wp2_with fail
  refine HP.out.mono ?_
  rintro e w1 ⟨rfl, hK⟩
  go_wp2_with fail
  go_end0
  exact ⟨rfl, hK⟩

def lessL (a2 a3 j : Int) (q : Rat) : List StampP := put1 1 j a2 (-q) ++ put1 1 j a3 q
set_option maxRecDepth 100000 in
set_option maxHeartbeats 40000000 in
theorem less_calls (W0 w : World) (pb : Nat) (d : DevP) (An : Option Addr) (cn : Nat) (Av : Option Addr) (cv : Nat) (As : Option Addr) (cs : Nat) (Ag : Option Addr) (cg : Nat) (Am : Option Addr) (cm : Nat) (br : List Int) (k : Int) (L : List StampP) (h : PenS W0 w pb d An cn Av cv As cs Ag cg Am cm br k L) (hn : NodesOK d) (h2 : 4 ≤ d.nodes.length) (hk0 : 0 ≤ k) (hk1 : k.toNat < br.length) (ij : I64 (br.getD k.toNat 0)) (yb : Nat) (q : Rat) (hq : RatB w yb q) (lq : LimQ q 1099511627776) (hL : L.length ≤ 1000000) :
    Calls Tryz.prog 159 #[.pointer (some ⟨pb, 0, none⟩), .pointer (some ⟨yb, 0, none⟩)] w fun e w' => e = .returned (.tuple #[]) ∧ Hid (PenS W0 w' pb d An cn Av cv As cs Ag cg Am cm br k (L ++ lessL (d.at 2) (d.at 3) (br.getD k.toNat 0) q) ∧ Keeps w w') := by
  have HP := Lib.hid h
  have HN := Lib.hid hn
  have HY := Lib.hid hq
  have HLQ := Lib.hid lq
  have HLN := Lib.hid lq.neg
  have HK := Lib.hid (Keeps.refl w)
  have HI := Lib.hid (fun i => hn.i64 i)
  have HJ := Lib.hid ij
  have l1 := len_put L 1 (br.getD k.toNat 0) (d.at 2) (-q)
  have hfin : L ++ put1 1 (br.getD k.toNat 0) (d.at 2) (-q) ++ put1 1 (br.getD k.toNat 0) (d.at 3) q = L ++ lessL (d.at 2) (d.at 3) (br.getD k.toNat 0) q := by unfold lessL; simp only [List.append_assoc]
  have HFIN := Lib.hid hfin
  have hown := fun w' L' (h' : PenS W0 w' pb d An cn Av cv As cs Ag cg Am cm br k L') => own_calls W0 w' pb d An cn Av cv As cs Ag cg Am cm br k L' h' hk0 hk1
  have HOWN := Lib.hid hown
  clear h hn hq lq hfin ij hown
  generalize br.getD k.toNat 0 = J at *
  go_enter Tryz.func159, Tryz.ntmps159
  go_wp2_with fail
  refine (HOWN.out w _ HP.out).mono ?_
  rintro e w1 ⟨rfl, hgn⟩
  have HP := Lib.hid (HP.out.more hgn)
  have HK := Lib.hid (HK.out.trans (Keeps.more hgn))
  go_wp2_with fail
  refine (at_calls W0 w1 pb d An cn Av cv As cs Ag cg Am cm br k _ HP.out HN.out 2 (by omega) (by omega)).mono ?_
  rintro e w' ⟨rfl, rfl⟩
  go_wp2_with fail
  have HY := Lib.hid (HY.out.more hgn)
  clear hgn
  refine (neg_calls w1 yb q HY.out HLQ.out).mono ?_
  rintro e w2 ⟨nb', rfl, hnb, hgn⟩
  have HP := Lib.hid (HP.out.more hgn)
  have HY := Lib.hid (HY.out.more hgn)
  have HK := Lib.hid (HK.out.trans (Keeps.more hgn))
  have HNB := Lib.hid hnb
  clear hnb
  go_wp2_with fail
  refine (a_calls W0 w2 pb d An cn Av cv As cs Ag cg Am cm br k _ HP.out J (d.at 2) HJ.out (HI.out 2) nb' (-q) HNB.out HLN.out (by omega)).mono ?_
  rintro e w3 ⟨rfl, h1⟩
  have HP := Lib.hid h1.out.1
  have HY := Lib.hid (h1.out.2.pen HY.out)
  have HK := Lib.hid (HK.out.trans h1.out.2)
  clear h1 HNB hgn
  go_wp2_with fail
  refine (HOWN.out w3 _ HP.out).mono ?_
  rintro e w4 ⟨rfl, hgn⟩
  have HP := Lib.hid (HP.out.more hgn)
  have HK := Lib.hid (HK.out.trans (Keeps.more hgn))
  go_wp2_with fail
  refine (at_calls W0 w4 pb d An cn Av cv As cs Ag cg Am cm br k _ HP.out HN.out 3 (by omega) (by omega)).mono ?_
  rintro e w' ⟨rfl, rfl⟩
  go_wp2_with fail
  have HY := Lib.hid (HY.out.more hgn)
  clear hgn
  refine (a_calls W0 w4 pb d An cn Av cv As cs Ag cg Am cm br k _ HP.out J (d.at 3) HJ.out (HI.out 3) yb q HY.out HLQ.out (by omega)).mono ?_
  rintro e w5 ⟨rfl, h1⟩
  go_wp2_with fail
  go_end0
  exact ⟨rfl, Lib.hid ⟨by rw [← HFIN.out]; exact h1.out.1, HK.out.trans h1.out.2⟩⟩

end Go.Proofs.YtmfmfpmkgmkgiaaGreatDoor
