/- Contracts of the program's functions, and what they rest on: SumJ AwA AwB RefN LawA Script. -/
import Derived.Test.YtmfmfpmkgmkgiaaGreatDoorMav
import Derived.Deep.RegionHeld3
import Derived.Deep.Cut
import Derived.Test.YtmfmfpmkgmkgiaaGreatDoorMar
import Derived.Test.YtmfmfpmkgmkgiaaGreatDoorMao
import Derived.Test.YtmfmfpmkgmkgiaaGreatDoorMai
import Derived.OrdersHeld
import Derived.RegionTactic
import Derived.Lib.Hide
set_option linter.unusedVariables false
set_option linter.unusedSimpArgs false
namespace Go.Proofs.YtmfmfpmkgmkgiaaGreatDoor
open Go.RowKit Go.Maps
open Rat

set_option maxRecDepth 100000 in
set_option maxHeartbeats 40000000 in
theorem Build0_calls (w : World) (f : FlatP) (A1 : Option Addr) (c1 : Nat) (A2 : Option Addr) (c2 : Nat) (hf : FlatAt w f A1 c1 A2 c2) (hG : GlobOK w) (h0 : flatE f = 0)
    (mode method : Int) (step : Int × Int) (i1 : I64 step.1) (i2 : I64 step.2) (hs : setB mode method step = true) (hnb : ∀ k, k < f.devs.length → isBent (f.devs.getD k dev0).kind = false) (n : Nat) (hn : unk f = (n : Int)) (St : Nat → List StampP) (K M : Nat)
    (hOf : ∀ k, k < f.devs.length → ∀ W, w.grownBy W none → Calls Tryz.prog 44 #[.agg #[.slice A1 f.nodes.length c1, .slice A2 f.devs.length c2, .int .i64 f.step.1, .int .i64 f.step.2, .int .i64 f.method], .int .i64 (k : Int), .agg #[.int .i64 mode, .int .i64 method, .int .i64 step.1, .int .i64 step.2], .int .i64 0] W fun e w' => ∃ A c, e = .returned (.tuple #[.slice A (St k).length c, .int .i64 0]) ∧ StampRow w' (.slice A (St k).length c) (St k) ∧ W.grownBy w' none)
    (hSt : ∀ k x, k < f.devs.length → x ∈ St k → (∃ r : Nat, x.row = (r : Int) ∧ r < n) ∧ (∃ kk : Nat, x.kind = (kk : Int) ∧ kk < 5) ∧ LimQ x.val K) (hM : (allSt St f.devs.length).length ≤ M) (hM2 : M ≤ 100000) (hMK : 2 * (M * (K + 2) + 1 + K) + 1 ≤ 200000000) :
    Calls Tryz.prog 13 #[.agg #[.slice A1 f.nodes.length c1, .slice A2 f.devs.length c2, .int .i64 f.step.1, .int .i64 f.step.2, .int .i64 f.method], .agg #[.int .i64 mode, .int .i64 method, .int .i64 step.1, .int .i64 step.2], .slice none 0 0] w fun e w' => ∃ A c, e = .returned (.tuple #[.agg #[.slice A (buildV (allSt St f.devs.length) n).length c], .int .i64 (buildE (allSt St f.devs.length) n)]) ∧ SysRow w' (.slice A (buildV (allSt St f.devs.length) n).length c) (buildV (allSt St f.devs.length) n) ∧ w.grownBy w' none := by
  have g1 := gb_alloc w (.cells #[.slice A1 f.nodes.length c1, .slice A2 f.devs.length c2, .int .i64 f.step.1, .int .i64 f.step.2, .int .i64 f.method] 27) none
  have g2 := gb_alloc (w.alloc (.cells #[.slice A1 f.nodes.length c1, .slice A2 f.devs.length c2, .int .i64 f.step.1, .int .i64 f.step.2, .int .i64 f.method] 27)) (.cells #[.int .i64 mode, .int .i64 method, .int .i64 step.1, .int .i64 step.2] 29) none
  have g3 := gb_alloc ((w.alloc (.cells #[.slice A1 f.nodes.length c1, .slice A2 f.devs.length c2, .int .i64 f.step.1, .int .i64 f.step.2, .int .i64 f.method] 27)).alloc (.cells #[.int .i64 mode, .int .i64 method, .int .i64 step.1, .int .i64 step.2] 29)) (.cells #[.slice none 0 0] 38) none
  have gw := gb_trans g1 (gb_trans g2 g3)
  have hFB := (FlatBox.of (Blk.new w #[.slice A1 f.nodes.length c1, .slice A2 f.devs.length c2, .int .i64 f.step.1, .int .i64 f.step.2, .int .i64 f.method] 27)).more (gb_trans g2 g3)
  have hSB := (Blk.new (w.alloc (.cells #[.slice A1 f.nodes.length c1, .slice A2 f.devs.length c2, .int .i64 f.step.1, .int .i64 f.step.2, .int .i64 f.method] 27)) #[.int .i64 mode, .int .i64 method, .int .i64 step.1, .int .i64 step.2] 29).more g3
  have hZB := Blk.new ((w.alloc (.cells #[.slice A1 f.nodes.length c1, .slice A2 f.devs.length c2, .int .i64 f.step.1, .int .i64 f.step.2, .int .i64 f.method] 27)).alloc (.cells #[.int .i64 mode, .int .i64 method, .int .i64 step.1, .int .i64 step.2] 29)) #[.slice none 0 0] 38
  rw [World.size_alloc] at hSB hZB
  rw [World.size_alloc] at hZB
  have hsz : (((w.alloc (.cells #[.slice A1 f.nodes.length c1, .slice A2 f.devs.length c2, .int .i64 f.step.1, .int .i64 f.step.2, .int .i64 f.method] 27)).alloc (.cells #[.int .i64 mode, .int .i64 method, .int .i64 step.1, .int .i64 step.2] 29)).alloc (.cells #[.slice none 0 0] 38)).heap.size = w.heap.size + 3 := by simp
  have hCF := FCheck_calls _ f A1 c1 A2 c2 (hf.more gw) (hG.more gw)
  rw [h0] at hCF
  have HCF := Lib.hid hCF
  have HF := Lib.hid (hf.more gw)
  have HG := Lib.hid (hG.more gw)
  have HFB := Lib.hid hFB
  have HSB := Lib.hid hSB
  have HZB := Lib.hid hZB
  have HS := Lib.hid hs
  have H0 := Lib.hid h0
  have HGW := Lib.hid gw
  have HSZ := Lib.hid hsz
  have HN := Lib.hid hn
  have HNB := Lib.hid hnb
  have HOF := Lib.hid hOf
  have HST := Lib.hid hSt
  have HM := Lib.hid hM
  have HM2 := Lib.hid hM2
  have HMK := Lib.hid hMK
  obtain ⟨p0, p1, p2, p3, p4⟩ := hFB
  obtain ⟨r0, r1, r2, r3, _⟩ := hSB.four
  clear hCF hf hG h0 g1 g2 g3 hs hSB hZB hsz gw hn hnb hOf hSt hM hM2 hMK
  go_enter Tryz.func13, Tryz.ntmps13
  go_wp2_with fail
  generalize ((w.alloc (.cells #[.slice A1 f.nodes.length c1, .slice A2 f.devs.length c2, .int .i64 f.step.1, .int .i64 f.step.2, .int .i64 f.method] 27)).alloc (.cells #[.int .i64 mode, .int .i64 method, .int .i64 step.1, .int .i64 step.2] 29)).alloc (.cells #[.slice none 0 0] 38) = wa at *
  generalize hsw : w.heap.size = s at *
  have HSW := Lib.hid hsw
  clear hsw
  refine HCF.out.mono ?_
  rintro e w1 ⟨rfl, hg1⟩
  clear p0 p1 p2 p3 p4 r0 r1 r2 r3
  obtain ⟨p0, p1, p2, p3, p4⟩ := HFB.out.more hg1
  obtain ⟨r0, r1, r2, r3, _⟩ := (HSB.out.more hg1).four
  have hCS := SCheck_calls w1 mode method step i1 i2
  rw [HS.out, if_pos rfl] at hCS
  have HCS := Lib.hid hCS
  clear hCS
  go_wp2_with fail
  refine HCS.out.mono ?_
  rintro e w2 ⟨rfl, hg2⟩
  clear p0 p1 p2 p3 p4 r0 r1 r2 r3
  have g12 := gb_trans hg1 hg2
  have K1 : ∀ w', w2.grownBy w' none → w'.cell? ⟨s, 0, none⟩ = some (.slice A1 f.nodes.length c1) ∧ w'.cell? ⟨s, 1, none⟩ = some (.slice A2 f.devs.length c2) ∧ w'.cell? ⟨s, 2, none⟩ = some (.int .i64 f.step.1) ∧ w'.cell? ⟨s, 3, none⟩ = some (.int .i64 f.step.2) ∧ w'.cell? ⟨s, 4, none⟩ = some (.int .i64 f.method) := fun w' h => by
    obtain ⟨a0, a1, a2, a3, a4⟩ := HFB.out.more (gb_trans g12 h); exact ⟨a0, a1, a2, a3, a4⟩
  obtain ⟨p0, p1, p2, p3, p4⟩ := K1 _ (gb_refl _ _)
  have HK := Lib.hid K1
  have HG12 := Lib.hid g12
  have HBE : Hid (bents f.devs f.devs.length = []) := Lib.hid (by
    unfold bents
    rw [List.filter_eq_nil_iff.2 fun i hi => by rw [HNB.out i (List.mem_range.1 hi)]; simp]; rfl)
  clear K1 hg1 hg2 g12
  go_wp2_with fail
  go_region_held3 (fun w' => w'.cell? ⟨s, 0, none⟩ = some (.slice A1 f.nodes.length c1) ∧ w'.cell? ⟨s, 1, none⟩ = some (.slice A2 f.devs.length c2) ∧ w'.cell? ⟨s, 2, none⟩ = some (.int .i64 f.step.1) ∧ w'.cell? ⟨s, 3, none⟩ = some (.int .i64 f.step.2) ∧ w'.cell? ⟨s, 4, none⟩ = some (.int .i64 f.method)) ((refine HK.out _ ?_; (focus ((repeat (first | assumption | exact gb_refl _ _ | exact gb_drew _ _ | exact gb_alloc _ _ _ | refine gb_trans ?_ (gb_alloc _ _ _) | refine gb_trans ?_ (gb_drew _ _) | refine gb_trans ?_ (by assumption))); done))))
   (first
   | (go_at_call 17; refine (Bent_calls _ f A1 c1 A2 c2 (HF.out.more (gb_trans HG12.out (by (focus ((repeat (first | assumption | exact gb_refl _ _ | exact gb_drew _ _ | exact gb_alloc _ _ _ | refine gb_trans ?_ (gb_alloc _ _ _) | refine gb_trans ?_ (gb_drew _ _) | refine gb_trans ?_ (by assumption))); done)))))).mono ?_; rintro e w3 ⟨v3, rfl, hr3, hf3, hg3⟩; rw [HBE.out] at hr3; obtain ⟨A3, c3, rfl, _⟩ := hr3)
   | (go_at_call 42; refine (segsRight0_calls _ f A1 c1 A2 c2 A3 c3).mono ?_; rintro e w4 ⟨rfl, hg4⟩))
  all_goals
    go_wp2_with fail
    have hg4' : w2.grownBy w4 none := by (focus ((repeat (first | assumption | exact gb_refl _ _ | exact gb_drew _ _ | exact gb_alloc _ _ _ | refine gb_trans ?_ (gb_alloc _ _ _) | refine gb_trans ?_ (gb_drew _ _) | refine gb_trans ?_ (by assumption))); done))
    have HGA4 := Lib.hid (gb_trans HG12.out hg4')
    refine (Unknowns_calls w4 f A1 c1 A2 c2 (HF.out.more HGA4.out) (HG.out.more HGA4.out) H0.out).mono ?_
    rintro e w5 ⟨v5, rfl, hr5, hg5⟩
    rw [HN.out]
    have HGA5 := Lib.hid (gb_trans HGA4.out hg5)
    have hdl : f.devs.length ≤ 64 := (flat_ok H0.out).2.1
    have hn48 : n ≤ 48 := by have := (flat_ok H0.out).2.2.1; rw [HN.out] at this; omega
    have hmk := make_sums w5 n hn48
    clear hg4' hg5 hr5 p0 p1 p2 p3 p4
    obtain ⟨p0, p1, p2, p3, p4⟩ := HFB.out.more HGA5.out
    have hsm := sums_made w5 n 115
    have gsm := gb_alloc w5 (.cells (Array.replicate (n * 5) (Value.map none)) 115) none
    have HSM := Lib.hid hsm
    have HGSM := Lib.hid gsm
    have p1 := gb_cell gsm p1 (by simp)
    clear hsm gsm
    go_wp2_with fail
    clear hmk p0 p1 p2 p3 p4
    go_loopw [55] (fun iv wr => ∃ k : Nat, k ≤ f.devs.length ∧ iv = .int .i64 k ∧ w5.grownBy wr none ∧ Hid (SumsS wr w5.heap.size w5.heap.size n (allSt St k))) (fun iv _ => (f.devs.length - intOf iv).toNat)
    case atStart => exact ⟨0, by omega, rfl, HGSM.out, HSM⟩
    case round =>
      obtain ⟨k, hk, rfl, hg, hsums⟩ := hrel
      have HGK := Lib.hid (gb_trans HGA5.out hg)
      obtain ⟨p0, p1, p2, p3, p4⟩ := HFB.out.more HGK.out
      obtain ⟨r0, r1, r2, r3, _⟩ := (HSB.out.more HGK.out).four
      by_cases hlt : k < f.devs.length
      · as_aux_lemma =>
          obtain ⟨b, o, An, cn, Av, cv, As, cs, Ag, cg, Am, cm, rfl, hat, hc⟩ := (HF.out.more HGK.out).devs.at2 hlt
          have hbn := HNB.out k hlt
          generalize f.devs.getD k dev0 = d at *
          have t100 : (d.kind == 100) = false := by rw [beq_eq_false_iff_ne]; intro h; simp [isBent, h] at hbn
          have t115 : (d.kind == 115) = false := by rw [beq_eq_false_iff_ne]; intro h; simp [isBent, h] at hbn
          obtain ⟨q0, q1, q2, q3, q4, q5, q6, q7, q8, q9, q10, q11, q12⟩ := hc
          have ga := gb_alloc wr (.cells #[.int .u8 d.kind, .string d.name, .slice An d.nodes.length cn, .int .i64 d.ref, .int .i64 d.val.1, .int .i64 d.val.2, .int .i64 d.wkind, .slice Av d.wvals.length cv, .slice As d.wsteps.length cs, .string d.mname, .int .u8 d.mkind, .slice Ag d.mg.length cg, .slice Am d.mv.length cm] 89) none
          have hDB := DevBox.of (Blk.new wr #[.int .u8 d.kind, .string d.name, .slice An d.nodes.length cn, .int .i64 d.ref, .int .i64 d.val.1, .int .i64 d.val.2, .int .i64 d.wkind, .slice Av d.wvals.length cv, .slice As d.wsteps.length cs, .string d.mname, .int .u8 d.mkind, .slice Ag d.mg.length cg, .slice Am d.mv.length cm] 89)
          obtain ⟨m0, m1, m2, m3, m4, m5, m6, m7, m8, m9, m10, m11, m12⟩ := hDB
          have p0 := gb_cell ga p0 (by simp)
          have p1 := gb_cell ga p1 (by simp)
          have p2 := gb_cell ga p2 (by simp)
          have p3 := gb_cell ga p3 (by simp)
          have p4 := gb_cell ga p4 (by simp)
          have r0 := gb_cell ga r0 (by simp)
          have r1 := gb_cell ga r1 (by simp)
          have r2 := gb_cell ga r2 (by simp)
          have r3 := gb_cell ga r3 (by simp)
          have HG5K := Lib.hid (gb_trans hg ga)
          have HSK := Lib.hid (hsums.out.more ga)
          have hwk : w.grownBy (wr.alloc (.cells #[.int .u8 d.kind, .string d.name, .slice An d.nodes.length cn, .int .i64 d.ref, .int .i64 d.val.1, .int .i64 d.val.2, .int .i64 d.wkind, .slice Av d.wvals.length cv, .slice As d.wsteps.length cs, .string d.mname, .int .u8 d.mkind, .slice Ag d.mg.length cg, .slice Am d.mv.length cm] 89)) none := gb_trans HGW.out (gb_trans HGK.out ga)
          have HCO := Lib.hid (HOF.out k hlt _ hwk)
          have HLT := Lib.hid hlt
          clear hat hbn ga hg hwk hsums
          go_wp2_with fail
          generalize wr.alloc (.cells #[.int .u8 d.kind, .string d.name, .slice An d.nodes.length cn, .int .i64 d.ref, .int .i64 d.val.1, .int .i64 d.val.2, .int .i64 d.wkind, .slice Av d.wvals.length cv, .slice As d.wsteps.length cs, .string d.mname, .int .u8 d.mkind, .slice Ag d.mg.length cg, .slice Am d.mv.length cm] 89) = wb at *
          refine HCO.out.mono ?_
          rintro e w6 ⟨A6, c6, rfl, hst6, hg6⟩
          have HST6 := Lib.hid hst6
          have HG56 := Lib.hid (gb_trans HG5K.out hg6)
          have HSS6 := Lib.hid (HSK.out.more hg6)
          clear q0 q1 q2 q3 q4 q5 q6 q7 q8 q9 q10 q11 q12 p0 p1 p2 p3 p4 m0 m1 m2 m3 m4 m5 m6 m7 m8 m9 m10 m11 m12 r0 r1 r2 r3 hst6 hg6
          go_wp2_with fail
          go_loopw [84] (fun iv wx => ∃ t : Nat, t ≤ (St k).length ∧ iv = .int .i64 t ∧ Hid (Bel w5.heap.size w6 wx) ∧ Hid (SumsS wx w5.heap.size w5.heap.size n (allSt St k ++ (St k).take t))) (fun iv _ => ((St k).length - intOf iv).toNat)
          case atStart => exact ⟨0, by omega, rfl, Lib.hid (below_none (gb_refl _ _) HG56.out.size), Lib.hid (by rw [List.take_zero, List.append_nil]; exact HSS6.out)⟩
          case round =>
            obtain ⟨t, ht, rfl, hbel, hsx⟩ := hrel
            by_cases htl : t < (St k).length
            · obtain ⟨b7, A7, n7, c7, A8, n8, c8, e7, hcol, u0, u1, u2, u3', u4, u5, u6, hn7, hn8⟩ := (HST6.out.stay hbel.out.stay).at htl
              have htake : (St k).take (t + 1) = (St k).take t ++ [(St k)[t]] := by rw [List.take_add_one, List.getElem?_eq_getElem htl]; rfl
              obtain ⟨⟨r, hr, hrn⟩, ⟨kk, hkk, hk5⟩, hlx⟩ := HST.out k (St k)[t] HLT.out (List.getElem_mem _)
              have hlm := take_len (t := t) HM.out HLT.out (by omega)
              have hLL : LimL (allSt St k ++ (St k).take t) K := fun y hy => by
                rcases List.mem_append.1 hy with hy | hy
                · obtain ⟨j, hj, hx⟩ := mem_allSt hy; exact (HST.out j y (by have := HLT.out; omega) hx).2.2
                · exact (HST.out k y HLT.out (List.mem_of_mem_take hy)).2.2
              subst e7
              generalize hxx : (St k)[t] = x at *
              clear hxx
              rw [hkk] at u0
              rw [hr] at u1
              have gc := gb_alloc wr (.cells #[.int .i64 (kk : Int), .int .i64 (r : Int), .int .i64 x.col, .bool (decide (x.val.num < 0)), .slice A7 n7 c7, .bool false, .slice A8 n8 c8] 111) none
              obtain ⟨v0, v1, v2, v3, v4, v5', v6⟩ := (Blk.new wr #[.int .i64 (kk : Int), .int .i64 (r : Int), .int .i64 x.col, .bool (decide (x.val.num < 0)), .slice A7 n7 c7, .bool false, .slice A8 n8 c8] 111).seven
              have hbsz : w5.heap.size ≤ wr.heap.size := Nat.le_trans HG56.out.size hbel.out.size
              have hmk2 : 2 * ((allSt St k ++ (St k).take t).length * (K + 2) + 1 + K) + 1 ≤ 549755813888 := by
                have h1 := Nat.mul_le_mul_right (K + 2) hlm
                have h2 := HMK.out
                omega
              have HADD := Lib.hid (fun (W : World) (hW : wr.grownBy W none) => sadd_calls W w5.heap.size w5.heap.size n r kk K (allSt St k ++ (St k).take t) x A7 A8 n7 c7 n8 c8 (hsx.out.more hW) (Nat.le_trans hbsz hW.size) hcol (hn7.more hW) (hn8.more hW) hr hrn hn48 hkk hk5 hLL hlx hmk2 (by have := HM2.out; omega))
              have HTK := Lib.hid htake
              have HBEL := hbel
              have HGC := Lib.hid gc
              have HTL := Lib.hid htl
              have HBSZ := Lib.hid (Nat.le_trans hbsz (gb_trans gc (gb_drew _ _)).size)
              have HBC := Lib.hid (below_none (gb_trans gc (gb_drew _ _)) hbsz)
              have HSL : Hid ((St k).length ≤ 100000) := Lib.hid (by have h1 := take_len (t := (St k).length) HM.out HLT.out (Nat.le_refl _); rw [List.length_append, List.length_take] at h1; have := HM2.out; omega)
              have j0 : (0 : Int) ≤ (r : Int) := by omega
              have j1 : (r : Int) < (n : Int) := by omega
              clear hlx hLL hmk2 hlm htake hsx hbel hn7 hn8 hr hkk gc htl hbsz hcol
              go_upto_region 23 with (fail)
              clear u0 u1 u2 u3' u4 u5 u6
              generalize wr.alloc (.cells #[.int .i64 (kk : Int), .int .i64 (r : Int), .int .i64 x.col, .bool (decide (x.val.num < 0)), .slice A7 n7 c7, .bool false, .slice A8 n8 c8] 111) = wc at *
              generalize wr.heap.size = sq at *
              go_still_tail 5, (by kernel_rfl)
              change wpList _ _ _ _ _ wc.drew
              go_wp2_with fail
              refine (HADD.out wc.drew (gb_trans HGC.out (gb_drew _ _))).mono ?_
              rintro e w8 ⟨rfl, hs8, hbel8⟩
              have HS8 := Lib.hid hs8
              have HB8 := Lib.hid hbel8
              clear hs8 hbel8 v0 v1 v2 v3 v4 v5' v6
              have htl := HTL.out
              have hsl := HSL.out
              go_wp2_with fail
              exact ⟨⟨t + 1, by omega, by go_num, Lib.hid ((HBEL.out.trans (HBC.out)).trans HB8.out), Lib.hid (by rw [HTK.out, ← List.append_assoc]; exact HS8.out)⟩, by simp [intOf]; omega⟩
            · obtain rfl : t = (St k).length := by omega
              have hsx' := hsx.out
              rw [List.take_of_length_le (Nat.le_refl _)] at hsx'
              have HSX := Lib.hid hsx'
              have hgb : w5.grownBy wr none := gb_of_below ((gb_below HG56.out).trans hbel.out.below)
              have HGB := Lib.hid hgb
              clear hsx hsx' hgb hbel
              have hlt := HLT.out
              go_wp2_with fail
              exact ⟨⟨k + 1, by omega, by go_num, HGB.out, HSX⟩, by simp [intOf]; omega⟩
      · as_aux_lemma =>
          obtain rfl : k = f.devs.length := by omega
          have HSX := hsums
          have HG5R := Lib.hid hg
          have HLLA : Hid (LimL (allSt St f.devs.length) K) := Lib.hid fun y hy => by
            obtain ⟨j, hj, hx⟩ := mem_allSt hy; exact (HST.out j y hj hx).2.2
          have HMM := HM
          clear hsums hg p0 p1 p2 p3 p4 r0 r1 r2 r3 HST HOF HNB HF HG HCF HCS HS HBE
          go_wp2_with fail
          obtain ⟨w9, rfl⟩ : ∃ w9 : World, w9 = wr := ⟨_, rfl⟩
          have hob := Blk.new w9 #[.slice none 0 0] 38
          have hgo := gb_alloc w9 (.cells #[.slice none 0 0] 38) none
          have hosz : (w9.alloc (.cells #[.slice none 0 0] 38)).heap.size = w9.heap.size + 1 := by simp
          obtain ⟨ob, hobe⟩ : ∃ ob, ob = w9.heap.size := ⟨_, rfl⟩
          rw [← hobe] at hob hosz ⊢
          obtain ⟨wo, hwo⟩ : ∃ wo, wo = w9.alloc (.cells #[.slice none 0 0] 38) := ⟨_, rfl⟩
          rw [← hwo] at hob hgo hosz ⊢
          have HOB := Lib.hid hob
          have HGO := Lib.hid hgo
          have HOSZ := Lib.hid hosz
          have HOBE := Lib.hid hobe
          clear hob hgo hosz hobe hwo
          go_loopw [98] (fun iv wx => ∃ k : Nat, k ≤ n ∧ iv = .int .i64 k ∧ w9.grownBy wx none ∧ Hid (∃ (A : Option Addr) (c : Nat) (xs : List Value), (k = 0 → A = none) ∧ Blk wx ob #[.slice A k c] ∧ OwnQ wx (ob + 1) 52 7 (.slice A k c) k xs ∧ RecR 7 (RowW wx) xs (rowsOf (allSt St f.devs.length) k)) ∧ Hid (∀ r, r < k → wideB (allSt St f.devs.length) r = true)) (fun iv _ => (n - intOf iv).toNat)
          case atStart => exact ⟨0, by omega, rfl, HGO.out, Lib.hid ⟨none, 0, [], fun _ => rfl, HOB.out, OwnQ.nil _ _ _ _, rfl⟩, Lib.hid (fun r hr => by omega)⟩
          case round =>
            obtain ⟨k, hk, rfl, hg, hrows, hwide⟩ := hrel
            obtain ⟨A, c, xs, hnil, hblk, hown, hrec⟩ := hrows.out
            have hoblt := hblk.lt
            have HBLK := Lib.hid hblk
            have HOWN := Lib.hid hown
            have HREC := Lib.hid hrec
            have HOBL := Lib.hid hoblt
            have HNIL := Lib.hid hnil
            clear hnil
            clear hrows hblk hown hrec hoblt
            by_cases hlt : k < n
            · as_aux_lemma =>
                have j0 : (0 : Int) ≤ (k : Int) := by omega
                have j1 : (k : Int) < (n : Int) := by omega
                have HG := Lib.hid hg
                have HLT := Lib.hid hlt
                have hMK := HMK.out
                have hMM := HM.out
                have hM2 := HM2.out
                have hkb : (allSt St f.devs.length).length * (K + 2) + 1 ≤ 200000000 := by
                  have h1 := Nat.mul_le_mul_right (K + 2) hMM
                  omega
                have HROW := Lib.hid (srow_calls wr w5.heap.size w5.heap.size n k K (allSt St f.devs.length) (HSX.out.more hg) hlt HLLA.out hkb (by omega))
                clear hg hlt hMK hMM hM2 hkb
                go_wp2_with fail
                refine HROW.out.mono ?_
                rintro e w10 ⟨vm, va, vh, vs, vk, rfl, hm10, ha10, hh10, hs10, hk10, ⟨l1, l2, l3⟩, hg10⟩
                obtain ⟨Am, cm, rfl, _⟩ := hm10.form
                obtain ⟨Aa, ca, rfl, _⟩ := ha10.here.ctor
                obtain ⟨Ah, ch, rfl, _⟩ := hh10.here.ctor
                obtain ⟨As', cs', rfl, _⟩ := hs10.here.ctor
                obtain ⟨Ak, ck, rfl, _⟩ := hk10.form
                have HLM := Lib.hid (show (allSt St f.devs.length).length ≤ 100000 from Nat.le_trans HM.out HM2.out)
                have HRS : Hid (rowsOf (allSt St f.devs.length) (k + 1) = rowsOf (allSt St f.devs.length) k ++ [rowOf (allSt St f.devs.length) k]) := Lib.hid (rowsOf_succ _ _)
                have HWB : Hid (wideB (allSt St f.devs.length) k = (lensTo (rowOf (allSt St f.devs.length) k) 3).all fun x => decide (x ≤ 72)) := Lib.hid rfl
                generalize rowOf (allSt St f.devs.length) k = R at hm10 ha10 hh10 hs10 hk10 l1 l2 l3 HRS HWB ⊢
                have gr := gb_alloc w10 (.cells #[.bool R.mneg, .slice Am R.mlimbs.length cm, .slice Aa R.a.length ca, .slice Ah R.h.length ch, .slice As' R.s.length cs', .bool R.kneg, .slice Ak R.klimbs.length ck] 52) none
                have hBR := Blk.new w10 #[.bool R.mneg, .slice Am R.mlimbs.length cm, .slice Aa R.a.length ca, .slice Ah R.h.length ch, .slice As' R.s.length cs', .bool R.kneg, .slice Ak R.klimbs.length ck] 52
                obtain ⟨v0, v1, v2, v3, v4, v5', v6⟩ := hBR.seven
                have HBR := Lib.hid hBR
                have HGR := Lib.hid (gb_trans hg10 gr)
                have hl1 : R.a.length ≤ 1000000 := Nat.le_trans l1 (Nat.le_trans HLM.out (by omega))
                have hl2 : R.h.length ≤ 1000000 := Nat.le_trans l2 (Nat.le_trans HLM.out (by omega))
                have hl3 : R.s.length ≤ 1000000 := Nat.le_trans l3 (Nat.le_trans HLM.out (by omega))
                have HNUM := Lib.hid (numbers_calls (w10.alloc (.cells #[.bool R.mneg, .slice Am R.mlimbs.length cm, .slice Aa R.a.length ca, .slice Ah R.h.length ch, .slice As' R.s.length cs', .bool R.kneg, .slice Ak R.klimbs.length ck] 52)) R R.mneg R.kneg Am Aa Ah As' Ak cm ca ch cs' ck (ha10.here.more gr) (hh10.here.more gr) (hs10.here.more gr) hl1 hl2 hl3)
                have HRW := Lib.hid (show RowW (w10.alloc (.cells #[.bool R.mneg, .slice Am R.mlimbs.length cm, .slice Aa R.a.length ca, .slice Ah R.h.length ch, .slice As' R.s.length cs', .bool R.kneg, .slice Ak R.klimbs.length ck] 52)) [.bool R.mneg, .slice Am R.mlimbs.length cm, .slice Aa R.a.length ca, .slice Ah R.h.length ch, .slice As' R.s.length cs', .bool R.kneg, .slice Ak R.klimbs.length ck] R from ⟨_, _, _, _, _, rfl, hm10.more gr, ha10.more gr, hh10.more gr, hs10.more gr, hk10.more gr⟩)
                have hs10' := hg10.size
                have HRL := Lib.hid (And.intro hl1 (And.intro hl2 hl3))
                clear hm10 ha10 hh10 hs10 hk10 l1 l2 l3 hl1 hl2 hl3 gr hg10 hBR
                go_wp2_with fail
                obtain ⟨w11, hw11⟩ : ∃ W, W = w10.alloc (.cells #[.bool R.mneg, .slice Am R.mlimbs.length cm, .slice Aa R.a.length ca, .slice Ah R.h.length ch, .slice As' R.s.length cs', .bool R.kneg, .slice Ak R.klimbs.length ck] 52) := ⟨_, rfl⟩
                rw [← hw11] at v0 v1 v2 v3 v4 v5' v6 HBR HGR HNUM HRW ⊢
                obtain ⟨rq, hrq⟩ : ∃ r, r = w10.heap.size := ⟨_, rfl⟩
                rw [← hrq] at v0 v1 v2 v3 v4 v5' v6 HBR ⊢
                have HRQ : Hid (rq < w11.heap.size ∧ ob < rq) := Lib.hid ⟨by rw [hw11, hrq, World.size_alloc]; omega, by rw [hrq]; exact Nat.lt_of_lt_of_le HOBL.out hs10'⟩
                clear hw11 hrq
                refine HNUM.out.mono ?_
                rintro e w12 ⟨vn, rfl, hn12, hg12⟩
                obtain ⟨An', cn', rfl, _⟩ := id hn12
                have HN12 := Lib.hid hn12
                have HG12' := Lib.hid (gb_trans HGR.out hg12)
                have HBR12 := Lib.hid (HBR.out.more hg12)
                have HRW12 := Lib.hid (HRW.out.step (StayR.none hg12))
                clear hn12 hg12 v0 v1 v2 v3 v4 v5' v6
                have hnsl : (lensTo R 3).length ≤ 3000002 := by have := lensTo_length R 3 (by omega); have := HRL.out; omega
                generalize lensTo R 3 = ns at HN12 HWB hnsl ⊢
                go_wp2_with fail
                go_loopw [108] (fun iv wx => ∃ t : Nat, t ≤ ns.length ∧ iv = .int .i64 t ∧ w12.grownBy wx none ∧ Hid (∀ i (hi : i < ns.length), i < t → ns[i] ≤ 72)) (fun iv _ => (ns.length - intOf iv).toNat)
                case atStart => exact ⟨0, by omega, rfl, gb_refl _ _, Lib.hid (fun i hi h => by omega)⟩
                case round =>
                  obtain ⟨t, ht, rfl, hg, hle⟩ := hrel
                  by_cases htl : t < ns.length
                  · obtain ⟨b, b', A', c', rfl, u0, u1⟩ := (HN12.out.more hg).at htl
                    obtain ⟨x, hx⟩ : ∃ x, x = ns[t] := ⟨_, rfl⟩
                    rw [← hx] at u1
                    have gx := gb_alloc wr (.cells #[.bool b', .slice A' x c'] 49) none
                    obtain ⟨m0, m1, _⟩ := (Blk.new wr #[.bool b', .slice A' x c'] 49).two
                    have HGX := Lib.hid (gb_trans hg gx)
                    by_cases h72 : 72 < x
                    · as_aux_lemma =>
                        have t0 : (72 : Int) < (x : Int) := by omega
                        have HNW : Hid (wideB (allSt St f.devs.length) k = false) := Lib.hid (by
                          rw [HWB.out, List.all_eq_false]
                          exact ⟨ns[t], List.getElem_mem _, by rw [← hx]; simp; omega⟩)
                        have gall := gb_trans HGA5.out (gb_trans HG5R.out (gb_trans HG.out (gb_trans HG12'.out HGX.out)))
                        have hzb := HZB.out.more gall
                        have z0 := hzb.cell 0
                        have y0 := hzb.free 0
                        simp only [List.getElem?_toArray, List.getElem?_cons_zero] at z0
                        have HGALL := Lib.hid (gb_trans HGW.out gall)
                        have HEV := Lib.hid (build_no HLT.out HNW.out)
                        clear gall hzb gx h72 hx
                        go_wp2_with fail
                        try simp only [Exit.inBlock, Exit.then]
                        refine bodyPost_ret (v := .tuple #[.agg #[.slice none 0 0], .int .i64 13]) (by simp [results, Tryz.results13, go_sem, *]) rfl ⟨none, 0, ?_, ?_, ?_⟩
                        · rw [HEV.out.1, HEV.out.2]; rfl
                        · rw [HEV.out.2]; exact SysRow.nil _
                        · exact gb_new HGALL.out (gb_set _ _ _ _) (by have := HSW.out; omega)
                    · as_aux_lemma =>
                        have t0 : ¬ (72 : Int) < (x : Int) := by omega
                        have HX72 : Hid (ns[t] ≤ 72) := Lib.hid (by rw [← hx]; omega)
                        clear hx gx h72
                        go_wp2_with fail
                        exact ⟨⟨t + 1, by omega, by go_num, HGX.out, Lib.hid (fun i hi h => by
                          by_cases hit : i = t
                          · subst hit; exact HX72.out
                          · exact hle.out i hi (by omega))⟩, by simp [intOf]; omega⟩
                  · as_aux_lemma =>
                      obtain rfl : t = ns.length := by omega
                      have HWK : Hid (wideB (allSt St f.devs.length) k = true) := Lib.hid (by
                        rw [HWB.out, List.all_eq_true]
                        intro y hy
                        obtain ⟨i, hi, rfl⟩ := List.mem_iff_getElem.1 hy
                        simpa using hle.out i hi hi)
                      have hga := gb_trans HG12'.out hg
                      have hblk := HBLK.out.more hga
                      have hown := HOWN.out.more hga
                      have hrec := HREC.out.imp (R' := RowW wr) fun cs a h => h.step (StayR.none hga)
                      have hrw := HRW12.out.step (StayR.none hg)
                      have hbr := HBR12.out.more hg
                      obtain ⟨v0, v1, v2, v3, v4, v5', v6⟩ := hbr.seven
                      have z0 := hblk.cell 0
                      simp only [List.getElem?_toArray, List.getElem?_cons_zero] at z0
                      have hobn : (Value.slice A k c).ownBlock ≠ some ob := fun e => by have := hown.from _ e; omega
                      have hsb : ob + 1 ≤ wr.heap.size := hblk.lt
                      have HBLK2 := Lib.hid hblk
                      have HOWN2 := Lib.hid hown
                      have HREC2 := Lib.hid hrec
                      have HRW2 := Lib.hid hrw
                      have HOBN := Lib.hid hobn
                      have HGA := Lib.hid (gb_trans HG.out hga)
                      have HCNT := Lib.hid (hown.count hrec (by omega))
                      clear hblk hown hrec hrw hbr hobn hga
                      have hbs := buildRow R.mneg R.kneg Am Aa Ah As' Ak R.mlimbs.length R.a.length R.h.length R.s.length R.klimbs.length cm ca ch cs' ck
                      go_wp2_with (first
                        | (refine wpList_build1 rfl 36 52 (.tmp 120) rfl #[.bool R.mneg, .slice Am R.mlimbs.length cm, .slice Aa R.a.length ca, .slice Ah R.h.length ch, .slice As' R.s.length cs', .bool R.kneg, .slice Ak R.klimbs.length ck] (by rfl) hbs ?_)
                        | (at_builtin; refine app_one_q (ob + 1) rfl (.tmp 119) (.tmp 121) 36 52 (.agg #[.bool false, .slice none 0 0, .slice none 0 0, .slice none 0 0, .slice none 0 0, .bool false, .slice none 0 0]) 7 136 rfl Tryz.underlying36 rowinfo rfl (by omega) (by omega) (.slice A k c) k xs #[.bool R.mneg, .slice Am R.mlimbs.length cm, .slice Aa R.a.length ca, .slice Ah R.h.length ch, .slice As' R.s.length cs', .bool R.kneg, .slice Ak R.klimbs.length ck] (by rfl) HOWN2.out (by rfl) (by rfl) (by simp [Value.oneCell']) (by omega) hsb (rowcells_noD _ _ _ _ _ _ _ _ _ _ _ _ _ _ _ _ _) rowzero_noD ?_; intro g cap w15 hown15 hg15; obtain ⟨d0, f0⟩ : w15.cell? ⟨ob, 0, none⟩ = some (.slice A k c) ∧ w15.frozen? ⟨ob, 0, none⟩ = false := ⟨((HBLK2.out.more (gb_alloc _ _ _)).row hg15 HOBN.out).cell 0, ((HBLK2.out.more (gb_alloc _ _ _)).row hg15 HOBN.out).free 0⟩; have H15 := Lib.hid (And.intro hown15 hg15); clear hown15 hg15)
                        | fail)
                      have hkn := HLT.out
                      have hown15 := H15.out.1
                      have hgp : g ≠ ob := by have := hown15.from g rfl; omega
                      have hstr : StayR wr (wr.alloc (.cells #[.bool R.mneg, .slice Am R.mlimbs.length cm, .slice Aa R.a.length ca, .slice Ah R.h.length ch, .slice As' R.s.length cs', .bool R.kneg, .slice Ak R.klimbs.length ck] 52)) := StayR.none (gb_alloc _ _ _)
                      have hst2 : StayR (wr.alloc (.cells #[.bool R.mneg, .slice Am R.mlimbs.length cm, .slice Aa R.a.length ca, .slice Ah R.h.length ch, .slice As' R.s.length cs', .bool R.kneg, .slice Ak R.klimbs.length ck] 52)) w15 := by
                        have hg15 := H15.out.2
                        by_cases h0 : k = 0
                        · have hA := HNIL.out h0
                          subst hA
                          exact StayR.none hg15
                        · cases hA : (Value.slice A k c).ownBlock with
                          | none => rw [hA] at hg15; exact StayR.none hg15
                          | some gg =>
                            rw [hA] at hg15
                            exact StayR.row hg15 (OwnQ.softRow (R := RowW (wr.alloc (.cells #[.bool R.mneg, .slice Am R.mlimbs.length cm, .slice Aa R.a.length ca, .slice Ah R.h.length ch, .slice As' R.s.length cs', .bool R.kneg, .slice Ak R.klimbs.length ck] 52))) (HOWN2.out.more (gb_alloc _ _ _)) (HREC2.out.imp fun cs a h => h.step hstr) (fun cs r h => by obtain ⟨_, _, _, _, _, rfl, _⟩ := h; exact ⟨_, rfl⟩) gg hA (by omega))
                      have hblk15 := (HBLK2.out.more (gb_alloc wr (.cells #[.bool R.mneg, .slice Am R.mlimbs.length cm, .slice Aa R.a.length ca, .slice Ah R.h.length ch, .slice As' R.s.length cs', .bool R.kneg, .slice Ak R.klimbs.length ck] 52) none)).row H15.out.2 HOBN.out
                      have hsoft : Soft w15 ob := ⟨by
                        obtain ⟨T, hb⟩ := hblk15
                        refine plain_of_heap hb ?_
                        intro u hu n
                        simp at hu
                        subst hu; simp, fun n => by rw [hblk15.cell 0]; simp⟩
                      have hst3 := StayR.row (gb_set w15 ob 0 (.slice (some ⟨g, 0, none⟩) (k + 1) cap)) hsoft
                      have hall := hstr.trans (hst2.trans hst3)
                      refine ⟨⟨k + 1, by omega, by go_num, ?_, Lib.hid ⟨_, _, _, fun h => by omega, hblk15.set 0 _, hown15.other (gb_set w15 ob 0 _) (by simp [Value.ownBlock]; exact hgp), ?_⟩, Lib.hid (fun r hr => by
                        by_cases hrk : r = k
                        · subst hrk; exact HWK.out
                        · exact hwide.out r (by omega))⟩, by simp [intOf]; omega⟩
                      · exact gb_new (gb_from (gb_trans HGA.out (gb_alloc _ _ _)) H15.out.2 (HOWN2.out.from.mono (by have := HOBE.out; omega))) (gb_set _ _ _ _) (Nat.le_of_eq HOBE.out.symm)
                      · rw [HRS.out]
                        exact RecR.snoc (k := 7) (ys := (#[.bool R.mneg, .slice Am R.mlimbs.length cm, .slice Aa R.a.length ca, .slice Ah R.h.length ch, .slice As' R.s.length cs', .bool R.kneg, .slice Ak R.klimbs.length ck] : Array Value).toList) rfl (HRW2.out.step hall) (HREC2.out.imp fun cs a h => h.step hall)
            · as_aux_lemma =>
                obtain rfl : k = n := by omega
                have hsr := HOWN.out.sysRow HREC.out
                have z0 := HBLK.out.cell 0
                simp only [List.getElem?_toArray, List.getElem?_cons_zero] at z0
                have gall := gb_trans HGA5.out (gb_trans HG5R.out hg)
                have hzb := HZB.out.more gall
                have z1 := hzb.cell 0
                have y1 := hzb.free 0
                simp only [List.getElem?_toArray, List.getElem?_cons_zero] at z1
                have HGALL := Lib.hid (gb_trans HGW.out gall)
                have HEV := Lib.hid (build_ok hwide.out)
                have HZS := Lib.hid (sys_soft hzb)
                have HSR := Lib.hid hsr
                clear hsr gall hzb hg
                go_wp2_with fail
                try simp only [Exit.inBlock, Exit.then]
                refine bodyPost_ret (v := .tuple #[.agg #[.slice A k c], .int .i64 0]) (by simp [results, Tryz.results13, go_sem, *]) rfl ⟨A, c, ?_, ?_, ?_⟩
                · rw [HEV.out.1, HEV.out.2, rowsOf_length]
                · rw [HEV.out.2, rowsOf_length]
                  have hz := HZS.out
                  have hfr := HOWN.out.from
                  refine OwnQ.sysRow (HOWN.out.other (gb_set _ _ _ _) (fun e => ?_)) (HREC.out.imp fun cs a h => h.step (StayR.row (gb_set _ _ _ _) hz))
                  have h1 := hfr _ e
                  have h2 := (gb_trans HGA5.out HG5R.out).size
                  have h3 := HSZ.out
                  have h4 := HOBE.out
                  omega
                · exact gb_new HGALL.out (gb_set _ _ _ _) (by have := HSW.out; omega)

end Go.Proofs.YtmfmfpmkgmkgiaaGreatDoor

namespace Go.Proofs.YtmfmfpmkgmkgiaaGreatDoor
open Go.RowKit Go.Maps

theorem circ_flat : flatE circF = 0 := by decide +kernel
theorem circ_unk : unk circF = 3 := by decide +kernel
theorem circ_wave : dcE (circF.devs.getD 0 dev0).wvals 3 = 0 := by decide +kernel
theorem circ_srcs : srcs circF.devs 3 3 = [5000000000, 0, 0] := by decide +kernel
theorem circ_set : setB 1 0 (0, 0) = true := by decide +kernel

theorem circ_bE : buildE (allSt (fun k => stampsL circF k) 3) 3 = 0 := by decide +kernel
def circV : List RowP := buildV (allSt (fun k => stampsL circF k) 3) 3
theorem circ_len : circV.length = 3 := by decide +kernel
theorem circ_m : (circV.getD 1 row0).mneg = false ∧ (circV.getD 1 row0).mlimbs = [2000] := by decide +kernel
theorem circ_a : (circV.getD 1 row0).a.length = 2 ∧ ((circV.getD 1 row0).a.getD 0 cell0).neg = true ∧ ((circV.getD 1 row0).a.getD 0 cell0).limbs = [2] ∧ ((circV.getD 1 row0).a.getD 1 cell0).col = 1 := by decide +kernel
theorem circ_rhs : rhsE circV [0, 0, 0] [5000000000, 0, 0] = 0 := by decide +kernel
theorem circ_rhsV : (rhsV circV [0, 0, 0] [5000000000, 0, 0]).length = 3 ∧ (rhsV circV [0, 0, 0] [5000000000, 0, 0]).getD 2 0 = 5000000000 := by decide +kernel
theorem circ_zero : sysE [row0] = 130 := by decide +kernel
end Go.Proofs.YtmfmfpmkgmkgiaaGreatDoor

namespace Go.Proofs.YtmfmfpmkgmkgiaaGreatDoor
open Go.RowKit Go.Maps

theorem circ_st : ∀ k, k < 3 → ∀ x ∈ stampsL circF k, (0 ≤ x.row ∧ x.row < 3) ∧ (0 ≤ x.kind ∧ x.kind < 5) ∧ LimQ x.val 10 := by
  intro k hk
  have : k = 0 ∨ k = 1 ∨ k = 2 := by omega
  unfold LimQ
  rcases this with rfl | rfl | rfl <;> decide +kernel
theorem circ_all : (allSt (fun k => stampsL circF k) 3).length ≤ 100 := by decide +kernel
set_option maxRecDepth 100000 in
theorem circBuild_calls (w : World) (A1 A2 : Option Addr) (hf : FlatAt w circF A1 3 A2 3) (hG : GlobOK w) :
    Calls Tryz.prog 13 #[.agg #[.slice A1 3 3, .slice A2 3 3, .int .i64 1, .int .i64 0, .int .i64 1], .agg #[.int .i64 1, .int .i64 0, .int .i64 0, .int .i64 0], .slice none 0 0] w fun e w' => ∃ A c, e = .returned (.tuple #[.agg #[.slice A 3 c], .int .i64 0]) ∧ SysRow w' (.slice A 3 c) circV ∧ w.grownBy w' none := by
  have h := Build0_calls w circF A1 3 A2 3 hf hG circ_flat 1 0 (0, 0) (by decide) (by decide) circ_set (by decide +kernel) 3 circ_unk (fun k => stampsL circF k) 10 100
    (fun k hk W hg => SOf_calls W circF A1 3 A2 3 (hf.more hg) (hG.more hg) circ_flat 1 0 (0, 0) (by decide) (by decide) circ_set k hk 0 (by
      have : k = 0 ∨ k = 1 ∨ k = 2 := by simp [circF, circD] at hk; omega
      rcases this with rfl | rfl | rfl <;> decide))
    (fun k x hk hx => by
      obtain ⟨⟨a1, a2⟩, ⟨b1, b2⟩, h3⟩ := circ_st k hk x hx
      exact ⟨⟨x.row.toNat, by omega, by omega⟩, ⟨x.kind.toNat, by omega, by omega⟩, h3⟩) circ_all (by decide) (by decide)
  have e1 : buildE (allSt (fun k => stampsL circF k) circF.devs.length) 3 = 0 := circ_bE
  have e2 : buildV (allSt (fun k => stampsL circF k) circF.devs.length) 3 = circV := rfl
  rw [e1, e2, circ_len] at h
  exact h

theorem circSources_calls (w : World) (A1 A2 : Option Addr) (hf : FlatAt w circF A1 3 A2 3) (hG : GlobOK w) :
    Calls Tryz.prog 27 #[.agg #[.slice A1 3 3, .slice A2 3 3, .int .i64 1, .int .i64 0, .int .i64 1], .int .i64 3] w fun e w' => ∃ v, e = .returned (.tuple #[v, .int .i64 0]) ∧ IntRow w' v [5000000000, 0, 0] ∧ w.grownBy w' none := by
  have h := Sources0_calls w circF A1 3 A2 3 hf hG circ_flat 3 (fun k hk hs => by
    have : k = 0 ∨ k = 1 ∨ k = 2 := by simp [circF, circD] at hk; omega
    rcases this with rfl | rfl | rfl
    · exact ⟨by decide, by decide +kernel, circ_wave⟩
    · exact absurd hs (by decide)
    · exact absurd hs (by decide))
  refine Calls.mono h ?_
  rintro e w' ⟨v, rfl, h1, h2⟩
  have e2 : srcs circF.devs 3 circF.devs.length = [5000000000, 0, 0] := circ_srcs
  rw [e2] at h1
  exact ⟨v, rfl, h1.introw (by simp [I64]), h2⟩

end Go.Proofs.YtmfmfpmkgmkgiaaGreatDoor

namespace Go.Proofs.YtmfmfpmkgmkgiaaGreatDoor
open Go.RowKit Go.Maps
open Rat

theorem Nums.at {w : World} {A : Option Addr} {n c : Nat} {xs : List Nat} (h : Nums w (.slice A n c) xs) {i : Nat} (hi : i < xs.length) :
    ∃ b o, A = some ⟨b, o, none⟩ ∧ w.cell? ⟨b, o + i, none⟩ = some (.int .u32 ((xs.getD i 0 : Nat) : Int)) := by
  obtain ⟨A', c', e, _, _, hA⟩ := h.read
  injection e with e1 e2 e3
  subst e1
  obtain ⟨b, o, rfl, hc⟩ := hA (by omega)
  exact ⟨b, o, rfl, by rw [hc i hi, List.getD_eq_getElem?_getD]⟩
set_option maxHeartbeats 40000000 in
theorem MSame_calls (w : World) (neg : Bool) (v1 v2 : Value) (xs : List Nat) (hx : Nums w v1 xs) (hy : Nums w v2 xs) :
    Calls Tryz.prog 65 #[.agg #[.bool neg, v1], .agg #[.bool neg, v2]] w fun e w' => e = .returned (.bool true) ∧ w.grownBy w' none := by
  obtain ⟨A1, c1, rfl, _⟩ := hx.form
  obtain ⟨A2, c2, rfl, hl, hl2⟩ := hy.form
  have gw := gb_trans (gb_alloc w (.cells #[.bool neg, .slice A1 xs.length c1] 49) none) (gb_alloc _ (.cells #[.bool neg, .slice A2 xs.length c2] 49) none)
  have hB1 := (Blk.new w #[.bool neg, .slice A1 xs.length c1] 49).more (gb_alloc _ (.cells #[.bool neg, .slice A2 xs.length c2] 49) none)
  have hB2 := Blk.new (w.alloc (.cells #[.bool neg, .slice A1 xs.length c1] 49)) #[.bool neg, .slice A2 xs.length c2] 49
  rw [World.size_alloc] at hB2
  have HX := Lib.hid (hx.more gw)
  have HY := Lib.hid (hy.more gw)
  obtain ⟨x0, x1, _⟩ := hB1.two
  obtain ⟨y0, y1, _⟩ := hB2.two
  have HGW := Lib.hid gw
  have t0 : (neg != neg) = false := by simp
  have t1 : ((xs.length : Int) != (xs.length : Int)) = false := by simp
  clear hx hy hB1 hB2 gw
  go_enter Tryz.func65, Tryz.ntmps65
  go_wp2_with fail
  generalize (w.alloc (.cells #[.bool neg, .slice A1 xs.length c1] 49)).alloc (.cells #[.bool neg, .slice A2 xs.length c2] 49) = wa at *
  generalize hs : w.heap.size = s at *
  clear hs
  go_loopw [5] (fun iv wr => ∃ k : Nat, k ≤ xs.length ∧ iv = .int .i64 k ∧ wa.grownBy wr none) (fun iv _ => (xs.length - intOf iv).toNat)
  case atStart => exact ⟨0, by omega, rfl, gb_refl _ _⟩
  case round =>
    obtain ⟨k, hk, rfl, hg⟩ := hrel
    have x0 := gb_cell hg x0 (by simp)
    have x1 := gb_cell hg x1 (by simp)
    have y0 := gb_cell hg y0 (by simp)
    have y1 := gb_cell hg y1 (by simp)
    by_cases hlt : k < xs.length
    · obtain ⟨b1, o1, rfl, u1⟩ := (HX.out.more hg).at hlt
      obtain ⟨b2, o2, rfl, u2⟩ := (HY.out.more hg).at hlt
      generalize xs.getD k 0 = x at *
      have t2 : ((x : Int) != (x : Int)) = false := by simp
      have HG := Lib.hid hg
      clear hg
      go_wp2_with fail
      go_quiet (fail)
      go_wp2_with fail
      exact ⟨⟨k + 1, by omega, by go_num, gb_trans HG.out (gb_drewN _ _ _)⟩, by simp [intOf]; omega⟩
    · obtain rfl : k = xs.length := by omega
      go_wp2_with fail
      go_ret
      exact ⟨rfl, gb_trans HGW.out hg⟩

set_option maxHeartbeats 40000000 in
theorem MGrids_calls (w : World) (v1 v2 : Value) (l : List Int) (hx : IntRow w v1 l) (hy : IntRow w v2 l) :
    Calls Tryz.prog 26 #[v1, v2] w fun e w' => e = .returned (.bool true) ∧ w.grownBy w' none := by
  obtain ⟨A1, c1, rfl, _⟩ := hx.ctor
  obtain ⟨A2, c2, rfl, hl, hl2⟩ := hy.ctor
  have t1 : ((l.length : Int) != (l.length : Int)) = false := by simp
  go_enter Tryz.func26, Tryz.ntmps26
  go_wp2_with fail
  go_loopw [5] (fun iv wr => ∃ k : Nat, k ≤ l.length ∧ iv = .int .i64 k ∧ w.grownBy wr none) (fun iv _ => (l.length - intOf iv).toNat)
  case atStart => exact ⟨0, by omega, rfl, gb_refl _ _⟩
  case round =>
    obtain ⟨k, hk, rfl, hg⟩ := hrel
    by_cases hlt : k < l.length
    · obtain ⟨b1, o1, rfl, _, u1⟩ := (hx.more hg).at hlt
      obtain ⟨b2, o2, rfl, _, u2⟩ := (hy.more hg).at hlt
      generalize l.getD k 0 = x at *
      have t2 : (x != x) = false := by simp
      have HG := Lib.hid hg
      clear hg
      go_wp2_with fail
      go_quiet (fail)
      go_wp2_with fail
      exact ⟨⟨k + 1, by omega, by go_num, gb_trans HG.out (gb_drewN _ _ _)⟩, by simp [intOf]; omega⟩
    · obtain rfl : k = l.length := by omega
      go_wp2_with fail
      go_ret
      exact ⟨rfl, hg⟩

theorem ZRow.at {w : World} {A : Option Addr} {n c : Nat} {L : List Int} (h : ZRow w (.slice A n c) L) {i : Nat} (hi : i < L.length) :
    ∃ b A' n' c', A = some ⟨b, 0, none⟩ ∧ w.cell? ⟨b, i * 2, none⟩ = some (.bool (decide (L.getD i 0 < 0))) ∧ w.cell? ⟨b, i * 2 + 1, none⟩ = some (.slice A' n' c') ∧ Nums w (.slice A' n' c') (digs (L.getD i 0)) := by
  obtain ⟨A0, c0, he, h4⟩ := h
  injection he with e1 e2 e3
  subst e1
  obtain ⟨b, rfl, hc⟩ := h4 (by omega)
  obtain ⟨A', n', c', u0, u1, hn⟩ := hc i hi
  have e : L.getD i 0 = L[i] := by rw [List.getD_eq_getElem?_getD, List.getElem?_eq_getElem hi]; rfl
  exact ⟨b, A', n', c', rfl, by rw [e]; exact u0, u1, by rw [e]; exact hn⟩
theorem ZRow.more {w w' : World} {v : Value} {L : List Int} (h : ZRow w v L) (hg : w.grownBy w' none) : ZRow w' v L := by
  obtain ⟨A0, c0, rfl, h4⟩ := h
  refine ⟨A0, c0, rfl, fun hp => ?_⟩
  obtain ⟨b, rfl, hc⟩ := h4 hp
  refine ⟨b, rfl, fun i hi => ?_⟩
  obtain ⟨A', n', c', u0, u1, hn⟩ := hc i hi
  exact ⟨A', n', c', gb_cell hg u0 (by simp), gb_cell hg u1 (by simp), hn.more hg⟩

set_option maxHeartbeats 40000000 in
theorem MSameInts_calls (w : World) (v1 v2 : Value) (l : List Int) (hx : ZRow w v1 l) (hy : ZRow w v2 l) (hl : l.length ≤ 9223372036854775807) :
    Calls Tryz.prog 23 #[v1, v2] w fun e w' => e = .returned (.bool true) ∧ w.grownBy w' none := by
  obtain ⟨A1, c1, rfl, _⟩ := id hx
  obtain ⟨A2, c2, rfl, _⟩ := id hy
  have t1 : ((l.length : Int) != (l.length : Int)) = false := by simp
  go_enter Tryz.func23, Tryz.ntmps23
  go_wp2_with fail
  go_loopw [5] (fun iv wr => ∃ k : Nat, k ≤ l.length ∧ iv = .int .i64 k ∧ w.grownBy wr none) (fun iv _ => (l.length - intOf iv).toNat)
  case atStart => exact ⟨0, by omega, rfl, gb_refl _ _⟩
  case round =>
    obtain ⟨k, hk, rfl, hg⟩ := hrel
    by_cases hlt : k < l.length
    · obtain ⟨b1, A1', n1, c1', rfl, x0, x1, hn1⟩ := (hx.more hg).at hlt
      obtain ⟨b2, A2', n2, c2', rfl, y0, y1, hn2⟩ := (hy.more hg).at hlt
      generalize l.getD k 0 = x at *
      generalize decide (x < 0) = neg at *
      have HN1 := Lib.hid hn1
      have HN2 := Lib.hid hn2
      have HG := Lib.hid hg
      have X0 := fun p => gr_cell x0 p
      have X1 := fun p => gr_cell x1 p
      have Y0 := fun p => gr_cell y0 p
      have Y1 := fun p => gr_cell y1 p
      have HC := Lib.hid (fun p => MSame_calls (gr wr p) neg _ _ (digs x) (HN1.out.more (gr_grown _ p)) (HN2.out.more (gr_grown _ p)))
      clear hg hn1 hn2
      go_wp2_with fail
      (refine wp_region_gr (by kernel_rfl) (by kernel_rfl) ?_
       repeat (go_big_quiet_step ((go_at_call 65; exact calls_gr (HC.out _))))
       refine wpQuiet_nil ?_
       intro _ hw'
       obtain ⟨pq, hw''⟩ := hw'
       subst hw'')
      have hgq := gr_grown wr pq
      generalize gr wr pq = wq at *
      go_wp2_with fail
      exact ⟨⟨k + 1, by omega, by go_num, gb_trans HG.out hgq⟩, by simp [intOf]; omega⟩
    · obtain rfl : k = l.length := by omega
      go_wp2_with fail
      go_ret
      exact ⟨rfl, hg⟩

end Go.Proofs.YtmfmfpmkgmkgiaaGreatDoor

namespace Go.Proofs.YtmfmfpmkgmkgiaaGreatDoor
open Go.RowKit Go.Maps

set_option maxRecDepth 100000 in
theorem same_calls (w : World) (neg : Bool) (v1 v2 : Value) (xs : List Nat) (hx : Nums w v1 xs) (hy : Nums w v2 xs) :
    Calls Tryz.prog 31 #[.agg #[.bool neg, v1], .agg #[.bool neg, v2]] w fun e w' => e = .returned (.bool true) ∧ w.grownBy w' none := by
  obtain ⟨A1, c1, rfl, _⟩ := hx.form
  obtain ⟨A2, c2, rfl, hl, hl2⟩ := hy.form
  have g1 := gb_alloc w (.cells #[.bool neg, .slice A1 xs.length c1] 49) none
  have g2 := gb_alloc (w.alloc (.cells #[.bool neg, .slice A1 xs.length c1] 49)) (.cells #[.bool neg, .slice A2 xs.length c2] 49) none
  have gw := gb_trans g1 g2
  have HGW := Lib.hid gw
  have HC := Lib.hid (MSame_calls ((w.alloc (.cells #[.bool neg, .slice A1 xs.length c1] 49)).alloc (.cells #[.bool neg, .slice A2 xs.length c2] 49)) neg _ _ xs (hx.more gw) (hy.more gw))
  clear hx hy g1 g2 gw
  go_enter Tryz.func31, Tryz.ntmps31
  go_wp2_with fail
  refine HC.out.mono ?_
  rintro e w1 ⟨rfl, hg⟩
  go_wp2_with fail
  go_ret
  exact ⟨rfl, gb_trans HGW.out hg⟩

end Go.Proofs.YtmfmfpmkgmkgiaaGreatDoor

namespace Go.Proofs.YtmfmfpmkgmkgiaaGreatDoor
open Go Go.RowKit

section
variable {P : Program} {md : Region.Mode} {ops : Array Oper} {Q : Exit → Act → World → Prop} {S : World → Prop} {z : Nat}
def wpT (P : Program) (md : Region.Mode) (ops : Array Oper) (Q : Exit → Act → World → Prop) (S : World → Prop) (z : Nat) (n : Nat) (l : Array Bool) (a : Act) (w : World) : Prop :=
  match n with
  | 0 => Region.ready md ops l = [] ∧ Q .normal a w
  | n + 1 => (Region.ready md ops l = [] → Q .normal a w) ∧
    ∀ i ∈ Region.ready md ops l, wpOp P ops Q i (fun a' w' => (i ≠ z → S w') ∧ wpT P md ops Q S z n (l.setIfInBounds i true) a' w') a w
theorem wpT.any : ∀ {n : Nat} {l : Array Bool} {a : Act} {w : World}, wpT P md ops Q S z n l a w → wpAny P md ops Q n l a w
  | 0, _, _, _, h => h
  | _ + 1, _, _, _, h => ⟨h.1, fun i hi => wpOp_mono (fun _ _ k => k.2.any) (h.2 i hi)⟩
theorem region_T {id : Nat} {a : Act} {w : World} (hm : P.follows .mixedOrders = true) (h : wpT P .any ops Q S z ops.size (Array.replicate ops.size false) a w.drew) : (Code.region id ops true).wp P Q a w :=
  wp_region_any hm h.any
theorem not_listed {l : Array Bool} {i : Nat} (h : l.getD i true = false) : l.getD i false = false := by
  by_cases hi : i < l.size
  · simp [hi] at h ⊢; exact h
  · simp [Array.getElem?_eq_none (Nat.le_of_not_lt hi)] at h
theorem wpT_lead {i : Nat} {oi : Oper} {v : Value} (hi : ops[i]? = some oi) (hsel : ∀ (j : Nat) (o : Oper) cs b, ops[j]? = some o → o.op ≠ .select cs b) (hQ : ∀ c a w, Q (.panic c) (a.put oi.dst v) w → Q (.panic c) a w) (hzi : z ≠ i) (hz : ∃ oz, ops[z]? = some oz ∧ ∃ e ∈ oz.after, Region.binds md e = true ∧ e.on = i) :
    ∀ (n : Nat) (l : Array Bool) (a : Act) (w : World), (∀ j oj, ops[j]? = some oj → j ≠ i → l.getD j true = false → (∀ e ∈ oj.after, Region.binds md e = true → e.on ≠ i) → oi.apart ops oj = true) →
      i ∈ Region.ready md ops l → YieldsIf P ops S oi v a → S w → wpT P md ops Q S z n (l.setIfInBounds i true) (a.put oi.dst v) w → wpT P md ops Q S z (n + 1) l a w
  | 0, l, a, w, _, hr, hy, hS, H => by
    refine ⟨fun h0 => absurd hr (by rw [h0]; simp), fun j hj => ?_⟩
    rcases Nat.decEq j i with hne | he
    · have := ready_mono hj hne
      rw [H.1] at this
      simp at this
    · subst he; exact hy.wpOp hi hS ⟨fun _ => hS, H⟩
  | n + 1, l, a, w, hap, hr, hy, hS, H => by
    refine ⟨fun h0 => absurd hr (by rw [h0]; simp), fun j hj => ?_⟩
    rcases Nat.decEq j i with hne | he
    · obtain ⟨hjl, oj, hoj, hall⟩ := mem_ready.1 hj
      have hil := (mem_ready.1 hr).1
      have hno : ∀ e ∈ oj.after, Region.binds md e = true → e.on ≠ i := by
        intro e he hb hon
        have h1 := hall e he hb
        rw [hon, not_listed hil] at h1
        cases h1
      have hnext := ready_mono (i := j) hr (fun e => hne e.symm)
      refine wpOp_mono (fun a' w' k => ?_) (wpOp_putIf hoj (hap j oj hoj hne hjl hno) (fun cs b => hsel i oi cs b hi) (fun cs b => hsel j oj cs b hoj) hQ hy (H.2 j (ready_mono hj hne)))
      obtain ⟨hy', hS', H'⟩ := k
      have hjz : j ≠ z := by
        rintro rfl
        obtain ⟨oz, hoz, e, he, hb, hon⟩ := hz
        rw [hoj] at hoz
        injection hoz with hoz
        subst hoz
        exact hno e he hb hon
      have hS2 := hS' hjz
      exact ⟨fun _ => hS2, wpT_lead hi hsel hQ hzi hz n (l.setIfInBounds j true) a' w' (fun k ok hk hki hkl hkn => hap k ok hk hki (by
        by_cases hjk : j = k
        · subst hjk; exact hjl
        · rwa [getD_set_ne true hjk] at hkl) hkn) hnext hy' hS2 (by rw [Array.setIfInBounds_comm _ _ hne]; exact H')⟩
    · subst he; exact hy.wpOp hi hS ⟨fun _ => hS, H⟩
theorem op_at {i : Nat} {oi : Oper} {rest : List Oper} (h : ops.toList.drop i = oi :: rest) : ops[i]? = some oi := by
  rw [← Array.getElem?_toList, ← Nat.add_zero i, ← List.getElem?_drop, h]; rfl
theorem wpT_take (i : Nat) {oi : Oper} {more : List Oper} {v : Value} {n : Nat} {l : Array Bool} {a : Act} {w : World} (hi' : ops.toList.drop i = oi :: more) (hs : Region.noSelect ops = true) (hf : Region.free md ops l i = true) (hr : (Region.ready md ops l).contains i = true)
    (hQ : ∀ c a w, Q (.panic c) (a.put oi.dst v) w → Q (.panic c) a w) (hzi : z ≠ i) (hz : ((ops[z]?.map fun o => o.after.any fun e => Region.binds md e && e.on == i).getD false) = true) (hw : Region.wanted oi (yielded ops a.tmps) = true) (hy : ∀ w, S w → (execOp a.eval oi).run P w = .ok (.value v) w) (hS : S w)
    (h : wpT P md ops Q S z n (l.setIfInBounds i true) (a.put oi.dst v) w) : wpT P md ops Q S z (n + 1) l a w :=
  have hi := op_at hi'
  wpT_lead hi (Region.noSelect_spec hs) hQ hzi (by
    cases ho : ops[z]? with
    | none => rw [ho] at hz; simp at hz
    | some oz =>
      rw [ho] at hz
      simp only [Option.map_some, Option.getD_some] at hz
      obtain ⟨e, he, hb⟩ := Array.any_eq_true'.1 hz
      simp only [Bool.and_eq_true, beq_iff_eq] at hb
      exact ⟨oz, rfl, e, he, hb.1, hb.2⟩) n l a w (Region.free_spec hi hf) (by simpa using hr) (.inl ⟨hw, hy⟩) hS h
theorem wpT_only (i : Nat) {oi : Oper} {more : List Oper} {n : Nat} {l : Array Bool} {a : Act} {w : World} (hr : Region.ready md ops l = [i]) (hi' : ops.toList.drop i = oi :: more)
    (h : ∀ K : Act → World → Prop, Hid (∀ a' w', (i ≠ z → S w') → wpT P md ops Q S z n (l.setIfInBounds i true) a' w' → K a' w') → if Region.wanted oi (yielded ops a.tmps) = true then Oper.wp P oi a w K Q else K (a.put oi.dst undef) w) : wpT P md ops Q S z (n + 1) l a w := by
  have hi := op_at hi'
  refine ⟨fun h0 => (by rw [hr] at h0; cases h0), fun j hj => ?_⟩
  rw [hr, List.mem_singleton] at hj
  subst hj
  exact wpOp_step hi fun K hK => h K (Lib.hid fun a' w' hs ht => hK a' w' ⟨hs, ht⟩)
theorem wpT_done {l : Array Bool} {a : Act} {w : World} {n : Nat} (hr : Region.ready md ops l = []) (h : Q .normal a w) : wpT P md ops Q S z n l a w := by
  cases n with
  | zero => exact ⟨hr, h⟩
  | succ n => exact ⟨fun _ => h, by rw [hr]; simp⟩

end
end Go.Proofs.YtmfmfpmkgmkgiaaGreatDoor
