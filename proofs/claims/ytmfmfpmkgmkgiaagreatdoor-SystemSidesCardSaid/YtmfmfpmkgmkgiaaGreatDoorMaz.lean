/- Contracts of the program's functions, and what they rest on: RefP Sides. -/
import Derived.Test.YtmfmfpmkgmkgiaaGreatDoorMax
import Derived.Test.YtmfmfpmkgmkgiaaGreatDoorMaw
import Derived.Test.YtmfmfpmkgmkgiaaGreatDoorMay
import Derived.Test.YtmfmfpmkgmkgiaaGreatDoorMai
set_option linter.unusedVariables false
set_option linter.unusedSimpArgs false
namespace Go.Proofs.YtmfmfpmkgmkgiaaGreatDoor
open Go.RowKit Go.Maps
open Rat

set_option maxRecDepth 100000 in
set_option maxHeartbeats 40000000 in
theorem RRhs_calls (w : World) (v vp vs : Value) (l : List RowP) (prev src : List Int) (hl : SysRow w v l) (hp : IntRow w vp prev) (hs : IntRow w vs src) :
    Calls Tryz.prog 22 #[.agg #[v], vp, vs] w fun e w' => ∃ A c, e = .returned (.tuple #[.slice A (rhsV l prev src).length c, .int .i64 (rhsE l prev src)]) ∧ ZRow w' (.slice A (rhsV l prev src).length c) (rhsV l prev src) ∧ w.grownBy w' none := by
  obtain ⟨A, c, rfl, h1, h2⟩ := hl.ctor
  obtain ⟨Ap, cp, rfl, p1, p2⟩ := hp.ctor
  obtain ⟨As', cs', rfl, s1, s2⟩ := hs.ctor
  have gw := gb_alloc w (.cells #[.slice A l.length c] 38) none
  have hB := Blk.new w #[.slice A l.length c] 38
  have c0 : (w.alloc (.cells #[.slice A l.length c] 38)).cell? ⟨w.heap.size, 0, none⟩ = some (.slice A l.length c) := hB.cell 0
  obtain ⟨E, hE⟩ : ∃ E, rhsE l prev src = E := ⟨_, rfl⟩
  obtain ⟨V, hV⟩ : ∃ V, rhsV l prev src = V := ⟨_, rfl⟩
  rw [hE, hV]
  have HE := Lib.hid hE
  have HV := Lib.hid hV
  have HL := Lib.hid (hl.more gw)
  have HPR := Lib.hid (hp.more gw)
  have HSR := Lib.hid (hs.more gw)
  have HB := Lib.hid hB
  have HC := Lib.hid (RSysCheck_calls (w.alloc (.cells #[.slice A l.length c] 38)) (.slice A l.length c) l (hl.more gw))
  clear hE hV hl hp hs hB
  go_enter Tryz.func22, Tryz.ntmps22
  go_wp2_with fail
  generalize w.alloc (.cells #[.slice A l.length c] 38) = wa at *
  generalize w.heap.size = s at *
  refine HC.out.mono ?_
  rintro e w1 ⟨rfl, g1⟩
  by_cases hse : sysE l = 0
  case neg =>
    have HF := Lib.hid (rhs_check (prev := prev) (src := src) hse)
    have hEE : E = sysE l := by rw [← HE.out]; exact HF.out.1
    have hVV : V = [] := by rw [← HV.out]; exact HF.out.2
    generalize sysE l = e0 at *
    have te : (e0 == 0) = false := by rw [beq_eq_false_iff_ne]; exact hse
    have HEE := Lib.hid hEE
    have HVV := Lib.hid hVV
    clear hse hEE hVV
    go_wp2_with fail
    go_ret2
    rw [HEE.out, HVV.out]
    exact ⟨none, 0, rfl, ⟨none, 0, rfl, fun h => by simp at h⟩, gb_trans gw g1⟩
  rw [hse]
  have HOK := Lib.hid (sys_ok hse)
  have c0 := gb_cell g1 c0 (by simp)
  have HL1 := Lib.hid (HL.out.more g1)
  have HPR1 := Lib.hid (HPR.out.more g1)
  have HSR1 := Lib.hid (HSR.out.more g1)
  have HB1 := Lib.hid (HB.out.more g1)
  have HG1 := Lib.hid (gb_trans gw g1)
  have HSE := Lib.hid hse
  clear hse g1 gw HL HPR HSR HB HC
  by_cases hpl : prev.length = l.length
  case neg =>
    have tp : ((prev.length : Int) == (l.length : Int)) = false := by rw [beq_eq_false_iff_ne]; omega
    have tp' : ((prev.length : Int) != (l.length : Int)) = true := by rw [bne_iff_ne]; omega
    have HEE : Hid (E = 5 ∧ V = []) := Lib.hid (by
      have : rhsE l prev src = 5 := by unfold rhsE; rw [HSE.out, if_neg (by simp), if_pos hpl]
      exact ⟨by rw [← HE.out]; exact this, by rw [← HV.out]; unfold rhsV; rw [this]; rfl⟩)
    clear hpl
    go_wp2_with fail
    go_ret2
    rw [HEE.out.1, HEE.out.2]
    exact ⟨none, 0, rfl, ⟨none, 0, rfl, fun h => by simp at h⟩, HG1.out⟩
  have tp : ((prev.length : Int) == (l.length : Int)) = true := by rw [beq_iff_eq]; omega
  have tp' : ((prev.length : Int) != (l.length : Int)) = false := by rw [bne_eq_false_iff_eq]; omega
  have HPL := Lib.hid hpl
  clear hpl
  go_wp2_with fail
  go_loopw [9] (fun i wr => ∃ k : Nat, k ≤ l.length ∧ i = .int .i64 k ∧ w1.grownBy wr none ∧ Hid (∀ t, t < k → (l.getD t row0).s.length = 0 ∨ ((l.getD t row0).s.getD ((l.getD t row0).s.length - 1) cell0).col < (src.length : Int))) (fun i _ => (l.length - intOf i).toNat)
  case atStart => exact ⟨0, by omega, rfl, gb_refl _ _, Lib.hid (fun t ht => by omega)⟩
  case round =>
    obtain ⟨k, hk, rfl, hg, hb⟩ := hrel
    by_cases hlt : k < l.length
    · obtain ⟨b, o, Am, nm, cm, Aa, ca, Ah, ch, As, cs, Ak, nk, ck, rfl, q0, q1, q2, q3, q4, q5, q6, rm, ra, rh, rs, rk⟩ := (HL1.out.more hg).at hlt
      obtain ⟨_, _, _, _, _, _, hco⟩ := HOK.out.2 k hlt
      generalize hx : l.getD k row0 = r at *
      have HX := Lib.hid hx
      have HCO := Lib.hid hco
      have HRS := Lib.hid rs
      have HG4 := Lib.hid hg
      have HLT := Lib.hid hlt
      have HHB := hb
      have c4 := gb_cell hg c0 (by simp)
      obtain ⟨_, _, _, rl1, rl2⟩ := rs.ctor
      have hll : r.s.length ≤ 9223372036854775807 := by omega
      have HLL := Lib.hid hll
      clear rl1 rl2 rm ra rh rs rk hco hx hb
      obtain ⟨w4, rfl⟩ : ∃ w4 : World, w4 = wr := ⟨_, rfl⟩
      go_wp2_with fail
      go_loopw [10] (fun j wq => ∃ t : Nat, t ≤ r.s.length ∧ j = .int .i64 t ∧ w4.grownBy wq none ∧ Hid (∀ i, i < t → (r.s.getD i cell0).col < (src.length : Int))) (fun j _ => (r.s.length - intOf j).toNat)
      case atStart => exact ⟨0, by omega, rfl, gb_refl _ _, Lib.hid (fun t ht => by omega)⟩
      case round =>
        obtain ⟨t, ht, rfl, hq, hbt⟩ := hrel
        have q4 := gb_cell hq q4 (by simp)
        have c4 := gb_cell hq c4 (by simp)
        have hll := HLL.out
        by_cases htl : t < r.s.length
        · obtain ⟨b2, o2, A', n', c', rfl, hI, u0, u1, u2, _⟩ := (HRS.out.more hq).at htl
          obtain ⟨col, hcc⟩ : ∃ c, (r.s.getD t cell0).col = c := ⟨_, rfl⟩
          rw [hcc] at u0 hI
          have HCC := Lib.hid hcc
          have HTL := Lib.hid htl
          clear hcc
          by_cases hcs : (src.length : Int) ≤ col
          · have HEE : Hid (E = 5 ∧ V = []) := Lib.hid (by
              have : rhsE l prev src = 5 := by
                unfold rhsE
                rw [HSE.out, if_neg (by simp), if_neg (by rw [HPL.out]; simp), if_pos]
                intro h
                have h0 := cells_mono HCO.out t (r.s.length - 1 - t) (by omega)
                rw [show t + (r.s.length - 1 - t) = r.s.length - 1 by omega, HCC.out] at h0
                rcases h k HLT.out with h | h
                · rw [HX.out] at h; omega
                · rw [HX.out] at h; omega
              exact ⟨by rw [← HE.out]; exact this, by rw [← HV.out]; unfold rhsV; rw [this]; rfl⟩)
            go_wp2_with fail
            go_ret2
            rw [HEE.out.1, HEE.out.2]
            exact ⟨none, 0, rfl, ⟨none, 0, rfl, fun h => by simp at h⟩, gb_trans HG1.out (gb_trans HG4.out hq)⟩
          · have HCS := Lib.hid hcs
            go_wp2_with fail
            exact ⟨⟨t + 1, by omega, by go_num, hq, Lib.hid (fun i hi => by
              by_cases hit : i = t
              · subst hit; rw [HCC.out]; have := HCS.out; omega
              · exact hbt.out i (by omega))⟩, by simp [intOf]; omega⟩
        · obtain rfl : t = r.s.length := by omega
          go_wp2_with fail
          exact ⟨⟨k + 1, by have := HLT.out; omega, by go_num, gb_trans HG4.out hq, Lib.hid (fun t ht => by
            by_cases htk : t = k
            · subst htk
              rw [HX.out]
              by_cases h0 : r.s.length = 0
              · exact .inl h0
              · exact .inr (hbt.out _ (by omega))
            · exact HHB.out t (by omega))⟩, by have := HLT.out; simp [intOf]; omega⟩
    · obtain rfl : k = l.length := by omega
      have HFIT : Hid (rowsFit l src.length) := Lib.hid hb.out
      have HG2 := Lib.hid (gb_trans HG1.out hg)
      have HPR2 := Lib.hid (HPR1.out.more hg)
      have HSR2 := Lib.hid (HSR1.out.more hg)
      have HL2 := Lib.hid (HL1.out.more hg)
      have c0 := gb_cell hg c0 (by simp)
      have HE4 : Hid ((prev.all onG && src.all onG) = false → E = 4 ∧ V = []) := Lib.hid (fun hh => by
        have : rhsE l prev src = 4 := by unfold rhsE; rw [HSE.out, if_neg (by simp), if_neg (by rw [HPL.out]; simp), if_neg (fun h => h HFIT.out), hh, if_pos (by simp)]
        exact ⟨by rw [← HE.out]; exact this, by rw [← HV.out]; unfold rhsV; rw [this]; rfl⟩)
      have HE5 : Hid ((prev.all onG && src.all onG) = true → E = (if ∀ i, i < l.length → lim ((sides l prev src).getD i 0) ≤ 72 then 0 else 13)) := Lib.hid (fun hh => by
        rw [← HE.out]; unfold rhsE; rw [HSE.out, if_neg (by simp), if_neg (by rw [HPL.out]; simp), if_neg (fun h => h HFIT.out), hh, if_neg (by simp)])
      clear hb hk hlt hg
      obtain ⟨w2, rfl⟩ : ∃ w2 : World, w2 = wr := ⟨_, rfl⟩
      go_wp2_with fail
      refine (ROnGrid_calls w2 _ prev HPR2.out).mono ?_
      rintro e w' ⟨rfl, rfl⟩
      cases hgp : prev.all onG with
      | false =>
        have HEE := Lib.hid (HE4.out (by rw [hgp]; rfl))
        clear hgp
        go_wp2_with fail
        go_ret2
        rw [HEE.out.1, HEE.out.2]
        exact ⟨none, 0, rfl, ⟨none, 0, rfl, fun h => by simp at h⟩, HG2.out⟩
      | true =>
        have HGP := Lib.hid hgp
        clear hgp
        go_wp2_with fail
        refine (ROnGrid_calls w2 _ src HSR2.out).mono ?_
        rintro e w' ⟨rfl, rfl⟩
        cases hgs : src.all onG with
        | false =>
          have HEE := Lib.hid (HE4.out (by rw [hgs, HGP.out]; rfl))
          clear hgs
          go_wp2_with fail
          go_ret2
          rw [HEE.out.1, HEE.out.2]
          exact ⟨none, 0, rfl, ⟨none, 0, rfl, fun h => by simp at h⟩, HG2.out⟩
        | true =>
          have HEE := Lib.hid (HE5.out (by rw [hgs, HGP.out]; rfl))
          clear hgs HE4 HE5 HSR1 HPR1 HL1 HB1 HG1
          go_wp2_with fail
          go_loopw [11, 12] (fun bv i wr => ∃ k : Nat, k ≤ l.length ∧ i = .int .i64 k ∧ Hid (∃ xs, OwnQ wr w2.heap.size 49 2 bv k xs ∧ IntsR wr xs ((sides l prev src).take k)) ∧ w2.grownBy wr none ∧ Hid (∀ t, t < k → lim ((sides l prev src).getD t 0) ≤ 72)) (fun _ i _ => (l.length - intOf i).toNat)
          case atStart => exact ⟨0, by omega, rfl, Lib.hid ⟨[], OwnQ.nil _ _ _ _, rfl⟩, gb_refl _ _, Lib.hid (fun t ht => by omega)⟩
          case round =>
            obtain ⟨k, hk, rfl, hown, hg, hb⟩ := hrel
            by_cases hlt : k < l.length
            · obtain ⟨b, o, Am, nm, cm, Aa, ca, Ah, ch, As, cs, Ak, nk, ck, rfl, q0, q1, q2, q3, q4, q5, q6, rm, ra, rh, rs, rk⟩ := (HL2.out.more hg).at hlt
              have hrok := HOK.out.2 k hlt
              have hfit := HFIT.out k hlt
              have hside : (sides l prev src).getD k 0 = sideZ (l.getD k row0) prev src := by unfold sides; simp [List.getD, List.getElem?_eq_getElem hlt]
              generalize hx : l.getD k row0 = r at *
              obtain ⟨hsum1, hsum2⟩ := row_sums hrok HOK.out.1 HPL.out hfit rh rs rk HPR2.out.i64 HSR2.out.i64
              obtain ⟨zz, hzz⟩ : ∃ z, sideZ r prev src = z := ⟨_, rfl⟩
              have hlz : lim zz ≤ 1000 := by rw [← hzz]; exact hsum2.2 _ (Nat.le_refl _)
              have HSD := Lib.hid (hside.trans hzz)
              have HSC := Lib.hid (MSide_calls wr r r.mneg Am Aa Ah As Ak nm cm r.a.length ca ch cs nk ck _ _ prev src rh rs rk (HPR2.out.more hg) (HSR2.out.more hg) hrok.2.2.2.1.1 hsum1 hsum2)
              rw [hzz] at HSC
              have HGB := Lib.hid hg
              have HOWN := hown
              have HLT := Lib.hid hlt
              have HHB := hb
              have h16 : (d16 zz).length ≤ 1099511627776 := by have := d16_len zz; omega
              have cg := gb_cell hg c0 (by simp)
              clear hsum1 hsum2 hrok hfit hside rm ra rh rs rk hown hx hzz hb
              go_wp2_with fail
              refine HSC.out.mono ?_
              rintro e w3 ⟨nv, rfl, hz3, hg3⟩
              clear HSC q0 q1 q2 q3 q4 q5 q6
              obtain ⟨v3, rfl, hd3⟩ := hz3
              obtain ⟨A3, c3, rfl, _⟩ := id hd3.ctor
              have gz := gb_alloc w3 (.cells #[.bool (decide (zz < 0)), .slice A3 (d16 zz).length c3] 122) none
              have hBZ := Blk.new w3 #[.bool (decide (zz < 0)), .slice A3 (d16 zz).length c3] 122
              have HBZ := Lib.hid hBZ
              have HNZ := Lib.hid (show NZ (w3.alloc (.cells #[.bool (decide (zz < 0)), .slice A3 (d16 zz).length c3] 122)) (.agg #[.bool (decide (zz < 0)), .slice A3 (d16 zz).length c3]) zz from ⟨_, rfl, hd3.more gz⟩)
              have HG5 := Lib.hid (gb_trans hg3 gz)
              obtain ⟨z0, z1, _, _⟩ := hBZ.two
              clear hd3 gz hBZ hg3
              go_wp2_with fail
              generalize w3.alloc (.cells #[.bool (decide (zz < 0)), .slice A3 (d16 zz).length c3] 122) = w5 at HBZ HNZ HG5 z0 z1 ⊢
              generalize w3.heap.size = zb at HBZ z0 z1 ⊢
              have HLC := Lib.hid (MLength_calls w5 _ zz HNZ.out h16)
              rw [lim_d16] at HLC
              refine HLC.out.mono ?_
              rintro e w6 ⟨rfl, hg6⟩
              clear HLC z0 z1
              obtain ⟨z0, z1, _, _⟩ := (HBZ.out.more hg6).two
              have HNZ6 := Lib.hid (HNZ.out.more hg6)
              have HG6 := Lib.hid (gb_trans HG5.out hg6)
              clear HNZ HG5 HBZ hg6
              have HK48 := Lib.hid HOK.out.1
              by_cases h72 : lim zz ≤ 72
              · have tg : ¬ (72 : Int) < (lim zz : Int) := by omega
                have tg2 : ¬ 72 < lim zz := by omega
                have H72 := Lib.hid h72
                have HGC := Lib.hid (MGive_calls w6 _ zz HNZ6.out h16)
                obtain ⟨xs, hown, hints⟩ := HOWN.out
                have HO2 := Lib.hid (hown.more HG6.out)
                have HI2 := Lib.hid (show IntsR w6 xs ((sides l prev src).take k) from hints.imp fun _ _ h => h.more HG6.out)
                have HGW := Lib.hid (gb_trans HGB.out HG6.out)
                have HB2 := Lib.hid HGW.out.size
                clear h72 hown hints
                go_wp2_with fail
                refine HGC.out.mono ?_
                rintro e w9 ⟨v9, rfl, hn9, hf9, hg9⟩
                obtain ⟨A9, n9, c9, rfl⟩ := hn9.ctor
                have HN9 := Lib.hid hn9
                have HG9 := Lib.hid hg9
                have HO9 := Lib.hid (HO2.out.more hg9)
                have hs9 := hg9.size
                have hs2 := HB2.out
                have hk48 := HK48.out
                have hltk := HLT.out
                clear hn9 hf9 hg9
                go_wp2_with (first
                  | (at_builtin; refine app_one_q w2.heap.size rfl (.tmp 82) (.tmp 85) 61 49 (.agg #[.bool false, .slice none 0 0]) 2 32 rfl Tryz.underlying61 zintinfo rfl (by omega) (by omega) u11 k xs #[.bool (decide (zz < 0)), .slice A9 n9 c9] (by rfl) HO9.out (by rfl) (by rfl) (by simp [Value.oneCell']) (by omega) (by omega) (intcells_noD _ _ _ _) intzero_noD ?_; intro g cap w11 hown11 hg11; have H11 := Lib.hid (And.intro hown11 hg11); clear hown11 hg11)
                  | fail)
                have hkn := HLT.out
                have hkm := HK48.out
                refine ⟨⟨k + 1, HLT.out, by go_num, Lib.hid ⟨_, H11.out.1, ?_⟩, ?_, Lib.hid ?_⟩, ?_⟩
                · have hk' : k < (sides l prev src).length := by unfold sides; simp; exact HLT.out
                  have hz1 := HSD.out
                  simp only [List.getD, List.getElem?_eq_getElem hk', Option.getD_some] at hz1
                  rw [List.take_add_one, List.getElem?_eq_getElem hk', hz1]
                  have hpl : ∀ r, u11.ownBlock = some r → Plain (w9.alloc (.cells #[.bool (decide (zz < 0)), .slice A9 n9 c9] 49)) r := fun r h => (HO9.out.more (gb_alloc _ _ _)).2 r h
                  exact (HI2.out.imp fun v ds h => ((h.more HG9.out).more (gb_alloc _ _ _)).row H11.out.2 hpl).snoc ((HN9.out.more (gb_alloc _ _ _)).row H11.out.2 hpl)
                · exact gb_own (gb_trans (gb_trans HGW.out HG9.out) (gb_alloc _ _ _)) (HO9.out.more (gb_alloc _ _ _)) H11.out.2
                · intro t ht
                  by_cases htk : t = k
                  · subst htk; rw [HSD.out]; exact H72.out
                  · exact HHB.out t (by omega)
                · simp [intOf]; omega
              · have tg : (72 : Int) < (lim zz : Int) := by omega
                have tg2 : 72 < lim zz := by omega
                have HE13 : Hid (E = 13 ∧ V = []) := Lib.hid (by
                  have : rhsE l prev src = 13 := by
                    rw [HE.out, HEE.out, if_neg]
                    intro h
                    have := h k HLT.out
                    rw [HSD.out] at this
                    omega
                  exact ⟨by rw [← HE.out]; exact this, by rw [← HV.out]; unfold rhsV; rw [this]; rfl⟩)
                clear h72
                go_wp2_with fail
                refine bodyPost_ret (v := .tuple #[.slice none 0 0, .int .i64 13]) (by simp [results, Tryz.results22, go_sem]) rfl ?_
                rw [HE13.out.1, HE13.out.2]
                exact ⟨none, 0, rfl, ⟨none, 0, rfl, fun h => by simp at h⟩, gb_trans HG2.out (gb_trans HGB.out HG6.out)⟩
            · obtain rfl : k = l.length := by omega
              have HE0 : Hid (E = 0 ∧ V = sides l prev src) := Lib.hid (by
                have : E = 0 := by rw [HEE.out, if_pos hb.out]
                refine ⟨this, ?_⟩
                rw [← HV.out]; unfold rhsV; rw [HE.out, this, if_pos rfl])
              obtain ⟨xs, hown, hints⟩ := hown.out
              have hsl : (sides l prev src).length = l.length := by unfold sides; simp
              rw [List.take_of_length_le (by omega)] at hints
              have HZR := Lib.hid (hown.zrow hints hsl.symm)
              clear hown hints hsl hb
              have c9 := gb_cell hg c0 (by simp)
              go_wp2_with fail
              go_ret2
              rw [HE0.out.1, HE0.out.2]
              obtain ⟨A, c, e, hh⟩ := HZR.out
              exact ⟨A, c, by rw [e]; rfl, ⟨A, c, rfl, hh⟩, gb_trans HG2.out hg⟩

end Go.Proofs.YtmfmfpmkgmkgiaaGreatDoor

namespace Go.Proofs.YtmfmfpmkgmkgiaaGreatDoor
open Go.RowKit Go.Maps

theorem IntRow.cells {w : World} {A : Option Addr} {n c : Nat} {l : List Int} (h : IntRow w (.slice A n c) l) (hp : 0 < l.length) : ∃ b o, A = some ⟨b, o, none⟩ ∧ ∀ i, i < l.length → w.cell? ⟨b, o + i, none⟩ = some (.int .i64 (l.getD i 0)) := by
  obtain ⟨A0, c0, he, _, _, _, h5⟩ := h
  injection he with e1
  subst e1
  exact h5 hp
theorem IntRow.all {w : World} {v : Value} {l : List Int} (h : IntRow w v l) : ∀ x ∈ l, I64 x := by
  obtain ⟨A0, c0, he, _, _, h4, _⟩ := h
  exact h4
theorem rhsV_len (l : List RowP) (prev src : List Int) (h : l.length ≤ 9223372036854775807) : (rhsV l prev src).length ≤ 9223372036854775807 := by
  unfold rhsV
  split
  · unfold sides; simpa using h
  · simp
set_option maxRecDepth 100000 in
set_option maxHeartbeats 40000000 in
theorem Sides_calls (w : World) (v vp vs : Value) (l : List RowP) (prev src : List Int) (hG : GlobOK w) (hl : SysRow w v l) (hp : IntRow w vp prev) (hs : IntRow w vs src) (bp : prev.length ≤ 17592186044416) (bs : src.length ≤ 17592186044416) :
    Calls Tryz.prog 4 #[.agg #[v], vp, vs] w fun e w' => e = .returned (.bool true) ∧ w.grownBy w' none := by
  obtain ⟨A, c, rfl, h1, h2⟩ := hl.ctor
  obtain ⟨Ap, cp, rfl, p1, p2⟩ := hp.ctor
  obtain ⟨As, cs, rfl, s1, s2⟩ := hs.ctor
  have gw := gb_alloc w (.cells #[.slice A l.length c] 38) none
  have hB := Blk.new w #[.slice A l.length c] 38
  have HL := Lib.hid (hl.more gw)
  have HP := Lib.hid (hp.more gw)
  have HS := Lib.hid (hs.more gw)
  have HB := Lib.hid hB
  have HGW := Lib.hid gw
  have HA := Lib.hid (awake_calls _ (hG.more gw))
  clear hl hp hs hB gw hG
  go_enter Tryz.func4, Tryz.ntmps4
  go_wp2_with fail
  generalize w.alloc (.cells #[.slice A l.length c] 38) = wa at HL HP HS HB HGW HA ⊢
  generalize w.heap.size = sb at HB ⊢
  refine HA.out.mono ?_
  rintro e w1 ⟨rfl, hg1⟩
  have c0 := (HB.out.more hg1).cell 0
  have HG1 := Lib.hid hg1
  clear hg1 HA
  go_wp2_with fail
  refine (heavy_calls w1 _ l (HL.out.more HG1.out)).mono ?_
  rintro e w2 ⟨hv, rfl, hg2⟩
  have HG2 := Lib.hid (gb_trans HG1.out hg2)
  clear hg2 c0
  cases hv
  case true =>
    go_wp2_with fail
    go_ret
    exact ⟨rfl, gb_trans HGW.out HG2.out⟩
  case false =>
    have hpr := HP.out.more HG2.out
    have hsr := HS.out.more HG2.out
    have HPR := Lib.hid hpr
    have HSR := Lib.hid hsr
    clear hpr hsr
    go_wp2_with (at_builtin; refine app_src w2.heap.size rfl _ _ 59 2 (.int .i64 0) 1 8 rfl Tryz.underlying59 int64info rfl (by omega) (by omega) _ 0 [] rfl (World.ownsRow_lit w2 #[] 0 (Nat.le_refl _) (by decide) rfl) Ap prev.length cp (ints prev) rfl (by simp [ints]) ?c1 (by cases Ap; exact .inl rfl; exact .inr ⟨_, rfl⟩) (by simp [ints, Value.oneCell']) (by omega) (by simp) ?_)
    case c1 =>
      intro hp
      obtain ⟨b, o, rfl, hc⟩ := HPR.out.cells (by omega)
      refine ⟨b, o, rfl, fun j hj => ?_⟩
      rw [ints_get _ _ (by omega)]
      exact gb_cell (gb_alloc w2 _ none) (hc j (by omega)) (by simp)
    intro p3 wp3 hown hgo hat
    have HIp3 := Lib.hid ((own_row hown).introw HPR.out.all)
    have HGp3 := Lib.hid (gb_new (gb_alloc w2 _ none) hgo (Nat.le_refl _))
    clear hown hgo hat
    have HSR := Lib.hid (HSR.out.more HGp3.out)
    go_wp2_with (at_builtin; refine app_src wp3.heap.size rfl _ _ 59 2 (.int .i64 0) 1 8 rfl Tryz.underlying59 int64info rfl (by omega) (by omega) _ 0 [] rfl (World.ownsRow_lit wp3 #[] 0 (Nat.le_refl _) (by decide) rfl) As src.length cs (ints src) rfl (by simp [ints]) ?c1 (by cases As; exact .inl rfl; exact .inr ⟨_, rfl⟩) (by simp [ints, Value.oneCell']) (by omega) (by simp) ?_)
    case c1 =>
      intro hp
      obtain ⟨b, o, rfl, hc⟩ := HSR.out.cells (by omega)
      refine ⟨b, o, rfl, fun j hj => ?_⟩
      rw [ints_get _ _ (by omega)]
      exact gb_cell (gb_alloc wp3 _ none) (hc j (by omega)) (by simp)
    intro p4 wp4 hown hgo hat
    have HIp4 := Lib.hid ((own_row hown).introw HSR.out.all)
    have HGp4 := Lib.hid (gb_new (gb_alloc wp3 _ none) hgo (Nat.le_refl _))
    clear hown hgo hat
    have HIp3 := Lib.hid (HIp3.out.more HGp4.out)
    have HG4 := Lib.hid (gb_trans HG2.out (gb_trans HGp3.out HGp4.out))
    obtain ⟨A3, c3, rfl, _⟩ := id HIp3.out.ctor
    obtain ⟨A4, c4, rfl, _⟩ := id HIp4.out.ctor
    have c0 := (HB.out.more HG4.out).cell 0
    clear HPR HSR HGp3 HGp4
    go_wp2_with fail
    refine (Rhs_calls wp4 _ _ _ l prev src (HL.out.more HG4.out) HIp3.out HIp4.out).mono ?_
    rintro e w5 ⟨A5, c5, rfl, hz, hg5⟩
    have HZ5 := Lib.hid hz
    have HG5 := Lib.hid (gb_trans HG4.out hg5)
    have HIp3 := Lib.hid (HIp3.out.more hg5)
    have HIp4 := Lib.hid (HIp4.out.more hg5)
    clear hz hg5 c0
    have c0 := (HB.out.more HG5.out).cell 0
    go_wp2_with fail
    refine (RRhs_calls w5 _ _ _ l prev src (HL.out.more HG5.out) (HP.out.more HG5.out) (HS.out.more HG5.out)).mono ?_
    rintro e w6 ⟨A6, c6, rfl, hz, hg6⟩
    have HZ6 := Lib.hid hz
    have HZ5 := Lib.hid (HZ5.out.more hg6)
    have HG6 := Lib.hid (gb_trans HG5.out hg6)
    have HIp3 := Lib.hid (HIp3.out.more hg6)
    have HIp4 := Lib.hid (HIp4.out.more hg6)
    clear hz hg6 c0
    have X0 := fun p => gr_cell ((HB.out.more HG6.out).cell 0) p
    generalize hE : rhsE l prev src = E at *
    have t1 : (E == E) = true := by simp
    have t2 : (sysE l == sysE l) = true := by simp
    have C1 := Lib.hid (fun p => MSameInts_calls (gr w6 p) _ _ _ (HZ5.out.more (gr_grown _ p)) (HZ6.out.more (gr_grown _ p)) (rhsV_len _ _ _ (by omega)))
    have C2 := Lib.hid (fun p => SysCheck_calls (gr w6 p) _ l ((HL.out.more HG6.out).more (gr_grown _ p)))
    have C3 := Lib.hid (fun p => RSysCheck_calls (gr w6 p) _ l ((HL.out.more HG6.out).more (gr_grown _ p)))
    have C4 := Lib.hid (fun p => MGrids_calls (gr w6 p) _ _ prev (HIp3.out.more (gr_grown _ p)) ((HP.out.more HG6.out).more (gr_grown _ p)))
    have C5 := Lib.hid (fun p => MGrids_calls (gr w6 p) _ _ src (HIp4.out.more (gr_grown _ p)) ((HS.out.more HG6.out).more (gr_grown _ p)))
    go_wp2_with fail
    (refine wp_region_gr (by kernel_rfl) (by kernel_rfl) ?_
     repeat (go_big_quiet_step (first | (go_at_call 23; exact calls_gr (C1.out _)) | (go_at_call 24; exact calls_gr (C2.out _)) | (go_at_call 25; exact calls_gr (C3.out _)) | (go_at_call_of 26 (Value.slice A3 prev.length c3); exact calls_gr (C4.out _)) | (go_at_call_of 26 (Value.slice A4 src.length c4); exact calls_gr (C5.out _)) | (fail)))
     refine wpQuiet_nil ?_
     intro _ hw'
     obtain ⟨pq, hw''⟩ := hw'
     subst hw'')
    have hgq := gr_grown w6 pq
    generalize gr w6 pq = wq at *
    go_wp2_with fail
    go_ret
    exact ⟨rfl, gb_trans HGW.out (gb_trans HG6.out hgq)⟩
end Go.Proofs.YtmfmfpmkgmkgiaaGreatDoor
