/- Contracts of the program's functions, and what they rest on: RefI RefJ RefK RefM. -/
import Derived.Test.YtmfmfpmkgmkgiaaGreatDoorMap
set_option linter.unusedVariables false
set_option linter.unusedSimpArgs false
namespace Go.Proofs.YtmfmfpmkgmkgiaaGreatDoor
open Go.RowKit Go.Maps
open Rat

theorem val_d16 (z : Int) : val 65536 (d16 z) = z.natAbs := val_dig 65536 (by omega) _

theorem same_abs {x y : Int} (h : decide (x < 0) = decide (y < 0)) : x.natAbs + y.natAbs = (x + y).natAbs := by
  by_cases hx : x < 0
  · rw [decide_eq_true hx] at h; have := of_decide_eq_true h.symm; omega
  · rw [decide_eq_false hx] at h; have := of_decide_eq_false h.symm; omega
theorem diff_abs {x y : Int} (h : ¬ decide (x < 0) = decide (y < 0)) (hle : y.natAbs ≤ x.natAbs) : x.natAbs - y.natAbs = (x + y).natAbs := by
  by_cases hx : x < 0
  · by_cases hy : y < 0
    · exact absurd (by rw [decide_eq_true hx, decide_eq_true hy]) h
    · omega
  · by_cases hy : y < 0
    · omega
    · exact absurd (by rw [decide_eq_false hx, decide_eq_false hy]) h
theorem len16_mono {x y : Int} (h : y.natAbs ≤ x.natAbs) : (d16 y).length ≤ (d16 x).length := by
  have hB : 2 ≤ 65536 := by omega
  refine (dig_len 65536 hB y.natAbs _).2 ?_
  have := (dig_len 65536 hB x.natAbs (d16 x).length).1 (Nat.le_refl _)
  omega

set_option maxRecDepth 100000 in
set_option maxHeartbeats 40000000 in
theorem MPlus_calls (w : World) (v1 v2 : Value) (x y : Int) (hx : NZ w v1 x) (hy : NZ w v2 y) (lx : (d16 x).length ≤ 1099511627776) (ly : (d16 y).length ≤ 1099511627776) :
    Calls Tryz.prog 120 #[v1, v2] w fun e w' => ∃ nv, e = .returned nv ∧ NZ w' nv (x + y) ∧ w.grownBy w' none := by
  obtain ⟨u1, rfl, hx⟩ := hx
  obtain ⟨u2, rfl, hy⟩ := hy
  obtain ⟨A1, c1, rfl, _⟩ := hx.ctor
  obtain ⟨A2, c2, rfl, _⟩ := hy.ctor
  have LX := Lib.hid lx
  have LY := Lib.hid ly
  have hn1 : decide (x < 0) = decide (x < 0) := rfl
  generalize hm1 : (d16 x).length = m1 at *
  generalize hm2 : (d16 y).length = m2 at *
  generalize hd1 : decide (x < 0) = n1 at *
  generalize hd2 : decide (y < 0) = n2 at *
  have HN1 := Lib.hid hd1
  have HN2 := Lib.hid hd2
  clear hn1 hd1 hd2 lx ly
  have gw := gb_trans (gb_trans (gb_alloc w (.cells #[.bool n1, .slice A1 m1 c1] 122) none) (gb_alloc _ (.cells #[.bool n2, .slice A2 m2 c2] 122) none)) (gb_alloc _ (.cells #[.bool false, .slice none 0 0] 122) none)
  have hB1 := (Blk.new w #[.bool n1, .slice A1 m1 c1] 122).more (gb_trans (gb_alloc _ (.cells #[.bool n2, .slice A2 m2 c2] 122) none) (gb_alloc _ (.cells #[.bool false, .slice none 0 0] 122) none))
  have hB2 := (Blk.new (w.alloc (.cells #[.bool n1, .slice A1 m1 c1] 122)) #[.bool n2, .slice A2 m2 c2] 122).more (gb_alloc _ (.cells #[.bool false, .slice none 0 0] 122) none)
  have hB3 := Blk.new ((w.alloc (.cells #[.bool n1, .slice A1 m1 c1] 122)).alloc (.cells #[.bool n2, .slice A2 m2 c2] 122)) #[.bool false, .slice none 0 0] 122
  rw [World.size_alloc] at hB2 hB3
  rw [World.size_alloc] at hB3
  have hsz : (((w.alloc (.cells #[.bool n1, .slice A1 m1 c1] 122)).alloc (.cells #[.bool n2, .slice A2 m2 c2] 122)).alloc (.cells #[.bool false, .slice none 0 0] 122)).heap.size = w.heap.size + 3 := by simp
  have HX := Lib.hid (hx.more gw)
  have HY := Lib.hid (hy.more gw)
  have HB1 := Lib.hid hB1
  have HB2 := Lib.hid hB2
  have HB3 := Lib.hid hB3
  have HSZ := Lib.hid hsz
  have HGW := Lib.hid gw
  clear hx hy hB1 hB2 hB3 hsz gw
  have HM1 := Lib.hid hm1
  have HM2 := Lib.hid hm2
  clear hm1 hm2
  by_cases hsame : n1 = n2
  · subst hsame
    have t : (n1 == n1) = true := by simp
    go_enter Tryz.func120, Tryz.ntmps120
    go_wp2_with fail
    generalize ((w.alloc (.cells #[.bool n1, .slice A1 m1 c1] 122)).alloc (.cells #[.bool n1, .slice A2 m2 c2] 122)).alloc (.cells #[.bool false, .slice none 0 0] 122) = wa at *
    generalize hs : w.heap.size = s at *
    have HS := Lib.hid hs
    clear hs
    obtain ⟨x0, x1, _⟩ := HB1.out.two
    obtain ⟨y0, y1, _⟩ := HB2.out.two
    refine (Mplus_calls wa _ _ _ _ HX.out HY.out (by rw [HM1.out]; exact LX.out) (by rw [HM2.out]; exact LY.out)).mono ?_
    rintro e w1 ⟨v5, rfl, hd5, hf5, hg5⟩
    rw [val_d16, val_d16, same_abs (HN1.out.trans HN2.out.symm)] at hd5
    change D16 w1 v5 (d16 (x + y)) at hd5
    obtain ⟨A5, c5, rfl, hl5⟩ := hd5.ctor
    have HZ0 : Hid ((d16 (x + y)).length = 0 ↔ x + y = 0) := Lib.hid (by rw [List.length_eq_zero_iff]; exact d16_nil)
    have HD5 := Lib.hid hd5
    have HFAR : Hid ((Value.slice A5 (d16 (x + y)).length c5).ownBlock ≠ some (s + 1 + 1)) := Lib.hid (fun e => by have h1 := hf5 _ e; have h2 := HSZ.out; omega)
    have HG1 := Lib.hid (gb_trans HGW.out hg5)
    clear x0 x1 y0 y1
    obtain ⟨x0, x1, _⟩ := (HB1.out.more hg5).two
    obtain ⟨y0, y1, _⟩ := (HB2.out.more hg5).two
    obtain ⟨d0, d1, f0, f1⟩ := (HB3.out.more hg5).two
    clear hd5 hf5 hg5
    generalize (d16 (x + y)).length = n5 at *
    cases n1 with
    | false =>
      have HSGN : Hid (decide (x + y < 0) = false) := Lib.hid (by have h1 := of_decide_eq_false HN1.out; have h2 := of_decide_eq_false HN2.out; exact decide_eq_false (by omega))
      go_wp2
      try simp only [Exit.inBlock, Exit.then]
      have hg6 : w1.grownBy ((w1.setCell ⟨s + 1 + 1, 0, none⟩ (.bool false)).setCell ⟨s + 1 + 1, 1, none⟩ (.slice A5 n5 c5)) (some (s + 1 + 1)) := gb_trans (gb_set _ _ _ _) (gb_set _ _ _ _)
      refine bodyPost_ret (v := .agg #[.bool false, .slice A5 n5 c5]) (by simp [results, Tryz.results120, go_sem, *]) rfl ⟨_, rfl, ⟨.slice A5 n5 c5, ?_, ?_⟩, gb_new HG1.out hg6 (by have := HS.out; omega)⟩
      · rw [HSGN.out]
      · exact HD5.out.apart hg6 HFAR.out
    | true =>
      have hneg : x + y < 0 := by have h1 := of_decide_eq_true HN1.out; have h2 := of_decide_eq_true HN2.out; omega
      have HSGN : Hid (decide (x + y < 0) = true) := Lib.hid (decide_eq_true hneg)
      have hp : 0 < n5 := Nat.pos_of_ne_zero (fun e => by have := HZ0.out.1 e; omega)
      have t0 : (0 : Int) < (n5 : Int) := by omega
      clear hneg
      go_wp2
      try simp only [Exit.inBlock, Exit.then]
      have hg6 : w1.grownBy ((w1.setCell ⟨s + 1 + 1, 0, none⟩ (.bool true)).setCell ⟨s + 1 + 1, 1, none⟩ (.slice A5 n5 c5)) (some (s + 1 + 1)) := gb_trans (gb_set _ _ _ _) (gb_set _ _ _ _)
      refine bodyPost_ret (v := .agg #[.bool true, .slice A5 n5 c5]) (by simp [results, Tryz.results120, go_sem, *]) rfl ⟨_, rfl, ⟨.slice A5 n5 c5, ?_, ?_⟩, gb_new HG1.out hg6 (by have := HS.out; omega)⟩
      · rw [HSGN.out]
      · exact HD5.out.apart hg6 HFAR.out
  · have t : (n1 == n2) = false := by rw [beq_eq_false_iff_ne]; exact hsame
    have HNE := Lib.hid hsame
    clear hsame
    go_enter Tryz.func120, Tryz.ntmps120
    go_wp2_with fail
    generalize ((w.alloc (.cells #[.bool n1, .slice A1 m1 c1] 122)).alloc (.cells #[.bool n2, .slice A2 m2 c2] 122)).alloc (.cells #[.bool false, .slice none 0 0] 122) = wa at *
    generalize hs : w.heap.size = s at *
    have HS := Lib.hid hs
    clear hs
    obtain ⟨x0, x1, _⟩ := HB1.out.two
    obtain ⟨y0, y1, _⟩ := HB2.out.two
    refine (mags_dig_calls wa _ _ _ _ HX.out HY.out).mono ?_
    rintro e w0 ⟨rfl, hg0⟩
    by_cases hle : y.natAbs ≤ x.natAbs
    · have hc : (0 : Int) ≤ cmpN x.natAbs y.natAbs := by unfold cmpN; rw [if_neg (by omega)]; split <;> omega
      have HLE := Lib.hid hle
      clear hle
      generalize cmpN x.natAbs y.natAbs = r at *
      clear x0 x1 y0 y1
      obtain ⟨x0, x1, _⟩ := (HB1.out.more hg0).two
      obtain ⟨y0, y1, _⟩ := (HB2.out.more hg0).two
      have HG0 := Lib.hid hg0
      clear hg0
      go_wp2_with fail
      refine (Mminus_calls w0 _ _ _ _ (HX.out.more HG0.out) (HY.out.more HG0.out) (by rw [HM1.out]; exact LX.out) (len16_mono HLE.out) (by rw [val_d16, val_d16]; exact HLE.out)).mono ?_
      rintro e w1 ⟨v5, rfl, hd5, hf5, hg5'⟩
      have hg5 := gb_trans HG0.out hg5'
      have hf5 : From wa.heap.size v5 := hf5.mono HG0.out.size
      clear hg5'
      rw [val_d16, val_d16, diff_abs (fun e => HNE.out (HN1.out.symm.trans (e.trans HN2.out))) HLE.out] at hd5
      change D16 w1 v5 (d16 (x + y)) at hd5
      obtain ⟨A5, c5, rfl, hl5⟩ := hd5.ctor
      have HZ0 : Hid ((d16 (x + y)).length = 0 ↔ x + y = 0) := Lib.hid (by rw [List.length_eq_zero_iff]; exact d16_nil)
      have HD5 := Lib.hid hd5
      have HFAR : Hid ((Value.slice A5 (d16 (x + y)).length c5).ownBlock ≠ some (s + 1 + 1)) := Lib.hid (fun e => by have h1 := hf5 _ e; have h2 := HSZ.out; omega)
      have HG1 := Lib.hid (gb_trans HGW.out hg5)
      clear x0 x1 y0 y1
      obtain ⟨x0, x1, _⟩ := (HB1.out.more hg5).two
      obtain ⟨y0, y1, _⟩ := (HB2.out.more hg5).two
      obtain ⟨d0, d1, f0, f1⟩ := (HB3.out.more hg5).two
      clear hd5 hf5 hg5
      generalize (d16 (x + y)).length = n5 at *
      cases n1 with
      | false =>
        have HSGN : Hid (decide (x + y < 0) = false) := Lib.hid (by have h1 := of_decide_eq_false HN1.out; have h2 := HLE.out; exact decide_eq_false (by omega))
        go_wp2
        try simp only [Exit.inBlock, Exit.then]
        have hg6 : w1.grownBy ((w1.setCell ⟨s + 1 + 1, 0, none⟩ (.bool false)).setCell ⟨s + 1 + 1, 1, none⟩ (.slice A5 n5 c5)) (some (s + 1 + 1)) := gb_trans (gb_set _ _ _ _) (gb_set _ _ _ _)
        refine bodyPost_ret (v := .agg #[.bool false, .slice A5 n5 c5]) (by simp [results, Tryz.results120, go_sem, *]) rfl ⟨_, rfl, ⟨.slice A5 n5 c5, ?_, ?_⟩, gb_new HG1.out hg6 (by have := HS.out; omega)⟩
        · rw [HSGN.out]
        · exact HD5.out.apart hg6 HFAR.out
      | true =>
        have h1 := of_decide_eq_true HN1.out
        have h2 : ¬ y < 0 := fun h => HNE.out (by rw [← HN2.out, decide_eq_true h])
        by_cases hz : n5 = 0
        · subst hz
          have h3 := HZ0.out.1 rfl
          have HSGN : Hid (decide (x + y < 0) = false) := Lib.hid (decide_eq_false (by omega))
          clear h1 h2 h3
          go_wp2
          try simp only [Exit.inBlock, Exit.then]
          have hg6 : w1.grownBy ((w1.setCell ⟨s + 1 + 1, 0, none⟩ (.bool false)).setCell ⟨s + 1 + 1, 1, none⟩ (.slice A5 0 c5)) (some (s + 1 + 1)) := gb_trans (gb_set _ _ _ _) (gb_set _ _ _ _)
          refine bodyPost_ret (v := .agg #[.bool false, .slice A5 0 c5]) (by simp [results, Tryz.results120, go_sem, *]) rfl ⟨_, rfl, ⟨.slice A5 0 c5, ?_, ?_⟩, gb_new HG1.out hg6 (by have := HS.out; omega)⟩
          · rw [HSGN.out]
          · exact HD5.out.apart hg6 HFAR.out
        · have h3 : x + y ≠ 0 := fun e => hz (HZ0.out.2 e)
          have h4 := HLE.out
          have HSGN : Hid (decide (x + y < 0) = true) := Lib.hid (decide_eq_true (by omega))
          have hp : 0 < n5 := by omega
          have t0 : (0 : Int) < (n5 : Int) := by omega
          clear h1 h2 h3 h4 hz
          go_wp2
          try simp only [Exit.inBlock, Exit.then]
          have hg6 : w1.grownBy ((w1.setCell ⟨s + 1 + 1, 0, none⟩ (.bool true)).setCell ⟨s + 1 + 1, 1, none⟩ (.slice A5 n5 c5)) (some (s + 1 + 1)) := gb_trans (gb_set _ _ _ _) (gb_set _ _ _ _)
          refine bodyPost_ret (v := .agg #[.bool true, .slice A5 n5 c5]) (by simp [results, Tryz.results120, go_sem, *]) rfl ⟨_, rfl, ⟨.slice A5 n5 c5, ?_, ?_⟩, gb_new HG1.out hg6 (by have := HS.out; omega)⟩
          · rw [HSGN.out]
          · exact HD5.out.apart hg6 HFAR.out
    · have hc : ¬ (0 : Int) ≤ cmpN x.natAbs y.natAbs := by unfold cmpN; rw [if_pos (by omega)]; omega
      have HLE : Hid (x.natAbs < y.natAbs) := Lib.hid (by omega)
      clear hle
      generalize cmpN x.natAbs y.natAbs = r at *
      clear x0 x1 y0 y1
      have K : ∀ w', w0.grownBy w' none → w'.cell? ⟨s + 1, 0, none⟩ = some (.bool n2) ∧ w'.cell? ⟨s + 1, 1, none⟩ = some (.slice A2 m2 c2) ∧ w'.cell? ⟨s, 1, none⟩ = some (.slice A1 m1 c1) := fun w' h => ⟨(HB2.out.more (gb_trans hg0 h)).cell 0, (HB2.out.more (gb_trans hg0 h)).cell 1, (HB1.out.more (gb_trans hg0 h)).cell 1⟩
      obtain ⟨x0, _⟩ := (HB1.out.more hg0).two
      obtain ⟨k0, k1, k2⟩ := K _ (gb_refl _ _)
      have HK := Lib.hid K
      have HG0 := Lib.hid hg0
      have ne1 : s + 1 + 1 ≠ s := by omega
      have ne2 : s ≠ s + 1 + 1 := by omega
      clear hg0 K
      go_wp2_with fail
      go_region_held3 (fun w' => w'.cell? ⟨s + 1, 0, none⟩ = some (.bool n2) ∧ w'.cell? ⟨s + 1, 1, none⟩ = some (.slice A2 m2 c2) ∧ w'.cell? ⟨s, 1, none⟩ = some (.slice A1 m1 c1)) (first | go_keep | exact HK.out _ (by (focus ((repeat (first | assumption | exact gb_refl _ _ | exact gb_drew _ _ | exact gb_alloc _ _ _ | refine gb_trans ?_ (gb_alloc _ _ _) | refine gb_trans ?_ (gb_drew _ _) | refine gb_trans ?_ (by assumption))); done))))
       (first
       | (go_at_call 175; refine (Mminus_calls _ _ _ _ _ (HY.out.more (gb_trans HG0.out (by (focus ((repeat (first | assumption | exact gb_refl _ _ | exact gb_drew _ _ | exact gb_alloc _ _ _ | refine gb_trans ?_ (gb_alloc _ _ _) | refine gb_trans ?_ (gb_drew _ _) | refine gb_trans ?_ (by assumption))); done))))) (HX.out.more (gb_trans HG0.out (by (focus ((repeat (first | assumption | exact gb_refl _ _ | exact gb_drew _ _ | exact gb_alloc _ _ _ | refine gb_trans ?_ (gb_alloc _ _ _) | refine gb_trans ?_ (gb_drew _ _) | refine gb_trans ?_ (by assumption))); done))))) (by rw [HM2.out]; exact LY.out) (len16_mono (Nat.le_of_lt HLE.out)) (by rw [val_d16, val_d16]; exact Nat.le_of_lt HLE.out)).mono ?_; rintro e w1 ⟨v5, rfl, hd5, hf5, hg5'⟩; rw [val_d16, val_d16, diff_abs (fun e => HNE.out (HN1.out.symm.trans (e.symm.trans HN2.out))) (Nat.le_of_lt HLE.out), Int.add_comm] at hd5; have hd5 : D16 w1 v5 (d16 (x + y)) := hd5; obtain ⟨A5, c5, rfl, hl5⟩ := hd5.ctor; have hf6 := hf5.mono (gb_trans HG0.out (show w0.grownBy _ none by (focus ((repeat (first | assumption | exact gb_refl _ _ | exact gb_drew _ _ | exact gb_alloc _ _ _ | refine gb_trans ?_ (gb_alloc _ _ _) | refine gb_trans ?_ (gb_drew _ _) | refine gb_trans ?_ (by assumption))); done)))).size; have HD5 := Lib.hid hd5; have HF6 := Lib.hid hf6; clear hf5 hf6; have g5 : w0.grownBy w1 none := gb_trans (by (focus ((repeat (first | assumption | exact gb_refl _ _ | exact gb_drew _ _ | exact gb_alloc _ _ _ | refine gb_trans ?_ (gb_alloc _ _ _) | refine gb_trans ?_ (gb_drew _ _) | refine gb_trans ?_ (by assumption))); done))) hg5'; obtain ⟨d0, d1, f0, f1⟩ := (HB3.out.more (gb_trans HG0.out g5)).two))
      all_goals
        have HFAR : Hid ((Value.slice A5 (d16 (x + y)).length c5).ownBlock ≠ some (s + 1 + 1)) := Lib.hid (fun e => by have h1 := HF6.out _ e; have h2 := HSZ.out; omega)
        have HG1 := Lib.hid (gb_trans HGW.out (gb_trans HG0.out g5))
        have HSGN : Hid (decide (x + y < 0) = n2) := Lib.hid (by
          rw [← HN2.out]
          have h1 := HLE.out
          by_cases hy : y < 0
          · rw [decide_eq_true hy]; exact decide_eq_true (by omega)
          · rw [decide_eq_false hy]; exact decide_eq_false (by omega))
        go_wp2
        try simp only [Exit.inBlock, Exit.then]
        have hg6 : w1.grownBy ((w1.setCell ⟨s + 1 + 1, 0, none⟩ (.bool n2)).setCell ⟨s + 1 + 1, 1, none⟩ (.slice A5 (d16 (x + y)).length c5)) (some (s + 1 + 1)) := gb_trans (gb_set _ _ _ _) (gb_set _ _ _ _)
        refine bodyPost_ret (v := .agg #[.bool n2, .slice A5 (d16 (x + y)).length c5]) (by simp [results, Tryz.results120, go_sem, *]) rfl ⟨_, rfl, ⟨.slice A5 (d16 (x + y)).length c5, ?_, ?_⟩, gb_new HG1.out hg6 (by have := HS.out; omega)⟩
        · rw [HSGN.out]
        · exact HD5.out.apart hg6 HFAR.out

end Go.Proofs.YtmfmfpmkgmkgiaaGreatDoor

namespace Go.Proofs.YtmfmfpmkgmkgiaaGreatDoor
open Go.RowKit Go.Maps
open Rat

theorem gb_own_row {a b c : World} {row : Option Nat} {e : TypeId} {size n : Nat} {v : Value} {xs : List Value} (h : a.grownBy b row) (ho : OwnQ b a.heap.size e size v n xs) (k : b.grownBy c v.ownBlock) : a.grownBy c row := by
  rcases ho.1.2 with ⟨rfl, _⟩ | ⟨g, cap, cur, rfl, hb, _⟩
  · exact gb_trans h (gb_none k)
  · exact gb_new h k hb

set_option maxRecDepth 100000 in
set_option maxHeartbeats 40000000 in
theorem MWide_calls (w : World) (z : Int) (h1 : -9223372036854775808 ≤ z) (h2 : z ≤ 9223372036854775807) :
    Calls Tryz.prog 121 #[.int .i64 z] w fun e w' => ∃ nv, e = .returned nv ∧ NZ w' nv z ∧ w.grownBy w' none := by
  have gw := gb_trans (gb_alloc w (.cells #[.bool false, .slice none 0 0] 122) none) (gb_alloc _ (.cells #[.bool false, .slice none 0 0] 122) none)
  have hB1 := (Blk.new w #[.bool false, .slice none 0 0] 122).more (gb_alloc _ (.cells #[.bool false, .slice none 0 0] 122) none)
  have hB2 := Blk.new (w.alloc (.cells #[.bool false, .slice none 0 0] 122)) #[.bool false, .slice none 0 0] 122
  rw [World.size_alloc] at hB2
  have HGW := Lib.hid gw
  have HB1 := Lib.hid hB1
  have HB2 := Lib.hid hB2
  clear gw hB1 hB2
  by_cases hz : z < 0
  · obtain ⟨N, rfl⟩ : ∃ N : Nat, z = -(N : Int) := ⟨z.natAbs, by omega⟩
    have c1 : IntKind.u64.wrap (-(N : Int)) = 18446744073709551616 - N := by rw [IntKind.wrap_u64]; omega
    have c2 : IntKind.u64.wrap (0 - (18446744073709551616 - (N : Int))) = N := by rw [IntKind.wrap_u64]; omega
    have c3 : IntKind.u64.wrap (-(18446744073709551616 - (N : Int))) = N := by rw [IntKind.wrap_u64]; omega
    have t0 : -(N : Int) < 0 := hz
    have HSG : Hid (decide (-(N : Int) < 0) = true) := Lib.hid (decide_eq_true hz)
    have HD16 : Hid (d16 (-(N : Int)) = dig 65536 N) := Lib.hid (by unfold d16; rw [Int.natAbs_neg]; rfl)
    clear hz
    obtain ⟨d0, d1, f0, f1⟩ := HB2.out.two
    go_enter Tryz.func121, Tryz.ntmps121
    go_wp2_with fail
    have HGW := Lib.hid (gb_trans (gb_alloc w (.cells #[.bool false, .slice none 0 0] 122) none) (gb_alloc _ (.cells #[.bool true, .slice none 0 0] 122) none))
    have HB1 := Lib.hid ((Blk.new w #[.bool false, .slice none 0 0] 122).more (gb_alloc _ (.cells #[.bool true, .slice none 0 0] 122) none))
    have hB2 := Blk.new (w.alloc (.cells #[.bool false, .slice none 0 0] 122)) #[.bool true, .slice none 0 0] 122
    rw [World.size_alloc] at hB2
    have HB2 := Lib.hid hB2
    clear d0 d1 f0 f1 hB2
    generalize (w.alloc (.cells #[.bool false, .slice none 0 0] 122)).alloc (.cells #[.bool true, .slice none 0 0] 122) = wa at *
    generalize hs : w.heap.size = s at *
    have HS := Lib.hid hs
    clear hs c1 c2 c3 t0
    go_loopw [4] (fun mv wr => ∃ m : Nat, mv = .int .u64 m ∧ Hid (m ≤ N ∧ ∃ (k : Nat) (ds : List Nat) (Ab : Option Addr) (cb : Nat), wa.grownBy wr (some (s + 1)) ∧ Hid (Blk wr (s + 1) #[.bool true, .slice Ab k cb]) ∧ Hid (OwnQ wr wa.heap.size 3 1 (.slice Ab k cb) k (i64s ds)) ∧ Hid (dig 65536 N = ds ++ dig 65536 m))) (fun mv _ => (intOf mv).toNat)
    case atStart => exact ⟨N, rfl, Lib.hid ⟨Nat.le_refl _, 0, [], none, 0, gb_refl _ _, HB2, Lib.hid (OwnQ.nil _ _ _ _), Lib.hid rfl⟩⟩
    case round =>
      obtain ⟨m, rfl, hrr⟩ := hrel
      obtain ⟨hmN, k, ds, Ab, cb, hg, hblk, hown, hdig⟩ := hrr.out
      clear hrr
      obtain ⟨d0, d1, f0, f1⟩ := hblk.out.two
      have hlt2 := HB2.out.lt
      have hne : (Value.slice Ab k cb).ownBlock ≠ some (s + 1) := fun e => by have := hown.out.from _ e; omega
      have HNE := Lib.hid hne
      have hkd : ds.length = k := by have := hown.out.1.1; simpa [i64s] using this
      have HKD := Lib.hid hkd
      by_cases hm : 0 < m
      · have hk4 : k ≤ 4 := by
          have a := (dig_len 65536 (by omega) N 4).2 (by omega)
          rw [hdig.out, List.length_append] at a
          omega
        have r1 : (m : Int).tmod 65536 = (m : Int) % 65536 := Int.tmod_eq_emod_of_nonneg (by omega)
        have r2 : (m : Int).tdiv 65536 = (m : Int) / 65536 := Int.tdiv_eq_ediv_of_nonneg (by omega)
        have r3 : IntKind.i64.wrap ((m : Int) % 65536) = (m : Int) % 65536 := IntWalk.i64_in _ (by omega)
        have r4 : IntKind.u64.wrap ((m : Int) / 65536) = (m : Int) / 65536 := IntWalk.u64_in _ (by omega)
        have r5 : IntKind.u64.wrap ((m : Int) % 65536) = (m : Int) % 65536 := IntWalk.u64_in _ (by omega)
        have hs1 := hg.size
        have HM := Lib.hid hm
        have HG := Lib.hid hg
        have HMN := Lib.hid hmN
        clear hne hkd hg hmN
        go_wp2_with (first
          | (at_builtin; refine app_one_q wa.heap.size rfl (.tmp 15) (.tmp 19) 30 3 (.int .i64 0) 1 8 rfl Tryz.underlying30 intinfo rfl (by omega) (by omega) (.slice Ab k cb) k (i64s ds) #[.int .i64 ((m : Int) % 65536)] (by rfl) hown.out (by rfl) (by rfl) (by simp [Value.oneCell']) (by omega) (by omega) (int1_noD _) int0_noD ?_; intro g cap w3 hown3 hgrow; obtain ⟨d0, d1, f0, f1⟩ := ((hblk.out.more (gb_alloc _ _ _)).row hgrow HNE.out).two; have HX := Lib.hid ((hblk.out.more (gb_alloc _ _ _)).row hgrow HNE.out); have H3 := Lib.hid (And.intro hown3 hgrow); clear hown3 hgrow)
          | fail)
        have hm := HM.out
        have hmn := HMN.out
        have hgr := gb_trans (gb_own_row (gb_trans HG.out (gb_alloc _ _ _)) (hown.out.more (gb_alloc _ _ _)) H3.out.2) (gb_set w3 (s + 1) 1 (.slice (some ⟨g, 0, none⟩) (k + 1) cap))
        have hbl := Lib.hid (show Blk _ (s + 1) #[.bool true, .slice (some ⟨g, 0, none⟩) (k + 1) cap] from HX.out.set 1 (.slice (some ⟨g, 0, none⟩) (k + 1) cap))
        have how : Hid (OwnQ (w3.setCell ⟨s + 1, 1, none⟩ (.slice (some ⟨g, 0, none⟩) (k + 1) cap)) wa.heap.size 3 1 (.slice (some ⟨g, 0, none⟩) (k + 1) cap) (k + 1) (i64s (ds ++ [m % 65536]))) := Lib.hid (by
          have h3 := H3.out.1
          have hgs := h3.from g rfl
          have hlt2 := HB2.out.lt
          have h4 := h3.other (gb_set w3 (s + 1) 1 (.slice (some ⟨g, 0, none⟩) (k + 1) cap)) (by simp [Value.ownBlock]; omega)
          unfold i64s at *
          rw [List.map_append]
          simpa using h4)
        have hdg : Hid (dig 65536 N = (ds ++ [m % 65536]) ++ dig 65536 (m / 65536)) := Lib.hid (by rw [hdig.out, dig_pos 65536 m (by omega) (by omega), List.append_assoc]; rfl)
        have hle : m / 65536 ≤ N := by omega
        exact ⟨⟨m / 65536, by first | rfl | go_num | omega, by first | exact Lib.hid ⟨hle, k + 1, _, _, _, hgr, hbl, how, hdg⟩ | exact Lib.hid ⟨hle, hgr, k + 1, _, _, _, hbl, how, hdg⟩⟩, by simp [intOf]; omega⟩
      · obtain rfl : m = 0 := by omega
        have hdn : dig 65536 N = ds := by rw [hdig.out, dig_zero, List.append_nil]
        have hd : D16 wr (.slice Ab k cb) ds := hown.out.d16 HKD.out.symm (by rw [← hdn]; exact dig_lt 65536 (by omega) N)
        have HD := Lib.hid hd
        have HDN := Lib.hid hdn
        have hlt1 := HB1.out.lt
        obtain ⟨x0, x1, y0, y1⟩ := (HB1.out.other hg (by omega)).two
        have hfar : (Value.slice Ab k cb).ownBlock ≠ some s := fun e => by have := hown.out.from _ e; omega
        have HFAR := Lib.hid hfar
        have HG := Lib.hid (gb_new HGW.out hg (by have := HS.out; omega))
        clear hdn hd hfar hne hkd hg hdig hown
        go_wp2
        try simp only [Exit.inBlock, Exit.then]
        have hg6 : wr.grownBy ((wr.setCell ⟨s, 0, none⟩ (.bool true)).setCell ⟨s, 1, none⟩ (.slice Ab k cb)) (some s) := gb_trans (gb_set _ _ _ _) (gb_set _ _ _ _)
        refine bodyPost_ret (v := .agg #[.bool true, .slice Ab k cb]) (by simp [results, Tryz.results121, go_sem, *]) rfl ⟨_, rfl, ⟨.slice Ab k cb, ?_, ?_⟩, gb_new HG.out hg6 (by have := HS.out; omega)⟩
        · rw [HSG.out]
        · have := HD.out.apart hg6 HFAR.out
          rw [← HDN.out] at this
          rw [HD16.out]; exact this
  · have c1 : IntKind.u64.wrap z = z := IntWalk.u64_in _ (by omega)
    obtain ⟨N, rfl⟩ : ∃ N : Nat, z = N := ⟨z.toNat, by omega⟩
    have t0 : ¬ (N : Int) < 0 := hz
    clear hz
    go_enter Tryz.func121, Tryz.ntmps121
    go_wp2_with fail
    generalize (w.alloc (.cells #[.bool false, .slice none 0 0] 122)).alloc (.cells #[.bool false, .slice none 0 0] 122) = wa at *
    generalize hs : w.heap.size = s at *
    have HS := Lib.hid hs
    clear hs
    have HSG : Hid (decide ((N : Int) < 0) = false) := Lib.hid (decide_eq_false (by omega))
    have HD16 : Hid (d16 (N : Int) = dig 65536 N) := Lib.hid rfl
    go_loopw [4] (fun mv wr => ∃ m : Nat, mv = .int .u64 m ∧ Hid (m ≤ N ∧ ∃ (k : Nat) (ds : List Nat) (Ab : Option Addr) (cb : Nat), wa.grownBy wr (some (s + 1)) ∧ Hid (Blk wr (s + 1) #[.bool false, .slice Ab k cb]) ∧ Hid (OwnQ wr wa.heap.size 3 1 (.slice Ab k cb) k (i64s ds)) ∧ Hid (dig 65536 N = ds ++ dig 65536 m))) (fun mv _ => (intOf mv).toNat)
    case atStart => exact ⟨N, rfl, Lib.hid ⟨Nat.le_refl _, 0, [], none, 0, gb_refl _ _, HB2, Lib.hid (OwnQ.nil _ _ _ _), Lib.hid rfl⟩⟩
    case round =>
      obtain ⟨m, rfl, hrr⟩ := hrel
      obtain ⟨hmN, k, ds, Ab, cb, hg, hblk, hown, hdig⟩ := hrr.out
      clear hrr
      obtain ⟨d0, d1, f0, f1⟩ := hblk.out.two
      have hlt2 := HB2.out.lt
      have hne : (Value.slice Ab k cb).ownBlock ≠ some (s + 1) := fun e => by have := hown.out.from _ e; omega
      have HNE := Lib.hid hne
      have hkd : ds.length = k := by have := hown.out.1.1; simpa [i64s] using this
      have HKD := Lib.hid hkd
      by_cases hm : 0 < m
      · have hk4 : k ≤ 4 := by
          have a := (dig_len 65536 (by omega) N 4).2 (by omega)
          rw [hdig.out, List.length_append] at a
          omega
        have r1 : (m : Int).tmod 65536 = (m : Int) % 65536 := Int.tmod_eq_emod_of_nonneg (by omega)
        have r2 : (m : Int).tdiv 65536 = (m : Int) / 65536 := Int.tdiv_eq_ediv_of_nonneg (by omega)
        have r3 : IntKind.i64.wrap ((m : Int) % 65536) = (m : Int) % 65536 := IntWalk.i64_in _ (by omega)
        have r4 : IntKind.u64.wrap ((m : Int) / 65536) = (m : Int) / 65536 := IntWalk.u64_in _ (by omega)
        have r5 : IntKind.u64.wrap ((m : Int) % 65536) = (m : Int) % 65536 := IntWalk.u64_in _ (by omega)
        have hs1 := hg.size
        have HM := Lib.hid hm
        have HG := Lib.hid hg
        have HMN := Lib.hid hmN
        clear hne hkd hg hmN
        go_wp2_with (first
          | (at_builtin; refine app_one_q wa.heap.size rfl (.tmp 15) (.tmp 19) 30 3 (.int .i64 0) 1 8 rfl Tryz.underlying30 intinfo rfl (by omega) (by omega) (.slice Ab k cb) k (i64s ds) #[.int .i64 ((m : Int) % 65536)] (by rfl) hown.out (by rfl) (by rfl) (by simp [Value.oneCell']) (by omega) (by omega) (int1_noD _) int0_noD ?_; intro g cap w3 hown3 hgrow; obtain ⟨d0, d1, f0, f1⟩ := ((hblk.out.more (gb_alloc _ _ _)).row hgrow HNE.out).two; have HX := Lib.hid ((hblk.out.more (gb_alloc _ _ _)).row hgrow HNE.out); have H3 := Lib.hid (And.intro hown3 hgrow); clear hown3 hgrow)
          | fail)
        have hm := HM.out
        have hmn := HMN.out
        have hgr := gb_trans (gb_own_row (gb_trans HG.out (gb_alloc _ _ _)) (hown.out.more (gb_alloc _ _ _)) H3.out.2) (gb_set w3 (s + 1) 1 (.slice (some ⟨g, 0, none⟩) (k + 1) cap))
        have hbl := Lib.hid (show Blk _ (s + 1) #[.bool false, .slice (some ⟨g, 0, none⟩) (k + 1) cap] from HX.out.set 1 (.slice (some ⟨g, 0, none⟩) (k + 1) cap))
        have how : Hid (OwnQ (w3.setCell ⟨s + 1, 1, none⟩ (.slice (some ⟨g, 0, none⟩) (k + 1) cap)) wa.heap.size 3 1 (.slice (some ⟨g, 0, none⟩) (k + 1) cap) (k + 1) (i64s (ds ++ [m % 65536]))) := Lib.hid (by
          have h3 := H3.out.1
          have hgs := h3.from g rfl
          have hlt2 := HB2.out.lt
          have h4 := h3.other (gb_set w3 (s + 1) 1 (.slice (some ⟨g, 0, none⟩) (k + 1) cap)) (by simp [Value.ownBlock]; omega)
          unfold i64s at *
          rw [List.map_append]
          simpa using h4)
        have hdg : Hid (dig 65536 N = (ds ++ [m % 65536]) ++ dig 65536 (m / 65536)) := Lib.hid (by rw [hdig.out, dig_pos 65536 m (by omega) (by omega), List.append_assoc]; rfl)
        have hle : m / 65536 ≤ N := by omega
        exact ⟨⟨m / 65536, by first | rfl | go_num | omega, by first | exact Lib.hid ⟨hle, k + 1, _, _, _, hgr, hbl, how, hdg⟩ | exact Lib.hid ⟨hle, hgr, k + 1, _, _, _, hbl, how, hdg⟩⟩, by simp [intOf]; omega⟩
      · obtain rfl : m = 0 := by omega
        have hdn : dig 65536 N = ds := by rw [hdig.out, dig_zero, List.append_nil]
        have hd : D16 wr (.slice Ab k cb) ds := hown.out.d16 HKD.out.symm (by rw [← hdn]; exact dig_lt 65536 (by omega) N)
        have HD := Lib.hid hd
        have HDN := Lib.hid hdn
        have hlt1 := HB1.out.lt
        obtain ⟨x0, x1, y0, y1⟩ := (HB1.out.other hg (by omega)).two
        have hfar : (Value.slice Ab k cb).ownBlock ≠ some s := fun e => by have := hown.out.from _ e; omega
        have HFAR := Lib.hid hfar
        have HG := Lib.hid (gb_new HGW.out hg (by have := HS.out; omega))
        clear hdn hd hfar hne hkd hg hdig hown
        go_wp2
        try simp only [Exit.inBlock, Exit.then]
        have hg6 : wr.grownBy ((wr.setCell ⟨s, 0, none⟩ (.bool false)).setCell ⟨s, 1, none⟩ (.slice Ab k cb)) (some s) := gb_trans (gb_set _ _ _ _) (gb_set _ _ _ _)
        refine bodyPost_ret (v := .agg #[.bool false, .slice Ab k cb]) (by simp [results, Tryz.results121, go_sem, *]) rfl ⟨_, rfl, ⟨.slice Ab k cb, ?_, ?_⟩, gb_new HG.out hg6 (by have := HS.out; omega)⟩
        · rw [HSG.out]
        · have := HD.out.apart hg6 HFAR.out
          rw [← HDN.out] at this
          rw [HD16.out]; exact this

end Go.Proofs.YtmfmfpmkgmkgiaaGreatDoor

namespace Go.Proofs.YtmfmfpmkgmkgiaaGreatDoor

theorem tim_step {os : List Nat} {p i j a y c V W : Nat} (hp : p = i + j) (hlt : p < os.length) (h : val 65536 os + 65536 ^ p * c = V + 65536 ^ i * (a * W)) :
    val 65536 (os.set p ((os[p]?.getD 0 + a * y + c) % 65536)) + 65536 ^ (p + 1) * ((os[p]?.getD 0 + a * y + c) / 65536) = V + 65536 ^ i * (a * (W + 65536 ^ j * y)) := by
  have e := val_set 65536 os p ((os[p]?.getD 0 + a * y + c) % 65536) hlt
  have d := Nat.mod_add_div (os[p]?.getD 0 + a * y + c) 65536
  have hpp : 65536 ^ p = 65536 ^ i * 65536 ^ j := by rw [hp, Nat.pow_add]
  generalize (os[p]?.getD 0 + a * y + c) % 65536 = r at *
  generalize (os[p]?.getD 0 + a * y + c) / 65536 = q at *
  generalize os[p]?.getD 0 = u at *
  rw [Nat.pow_succ]
  generalize val 65536 (os.set p r) = s at *
  generalize val 65536 os = t at *
  have d2 : 65536 ^ p * r + 65536 ^ p * 65536 * q = 65536 ^ p * (a * y) + 65536 ^ p * u + 65536 ^ p * c := by
    have : 65536 ^ p * (r + 65536 * q) = 65536 ^ p * (u + a * y + c) := by rw [d]
    grind
  have d3 : 65536 ^ p * (a * y) = 65536 ^ i * (a * (65536 ^ j * y)) := by rw [hpp]; grind
  have d4 : 65536 ^ i * (a * (W + 65536 ^ j * y)) = 65536 ^ i * (a * W) + 65536 ^ i * (a * (65536 ^ j * y)) := by grind
  rw [d4, ← d3]
  omega
theorem tim_small {a y u c : Nat} (ha : a < 65536) (hy : y < 65536) (hu : u < 65536) (hc : c < 65536) : u + a * y + c ≤ 4294967295 := by
  have : a * y ≤ 65535 * 65535 := Nat.mul_le_mul (by omega) (by omega)
  omega
def TimIn (os xs ys : List Nat) (k j cy : Nat) : Prop :=
  os.length = xs.length + ys.length ∧ (∀ d ∈ os, d < 65536) ∧ (∀ p, k + ys.length ≤ p → os[p]?.getD 0 = 0) ∧ val 65536 os + 65536 ^ (k + j) * cy = val 65536 (xs.take k) * val 65536 ys + 65536 ^ k * (xs[k]?.getD 0 * val 65536 (ys.take j))
def TimOut (os xs ys : List Nat) (k : Nat) : Prop :=
  os.length = xs.length + ys.length ∧ (∀ d ∈ os, d < 65536) ∧ (∀ p, k + ys.length ≤ p → os[p]?.getD 0 = 0) ∧ val 65536 os = val 65536 (xs.take k) * val 65536 ys
theorem TimOut.start (xs ys : List Nat) : TimOut (List.replicate (xs.length + ys.length) 0) xs ys 0 :=
  ⟨by simp, by simp, fun p _ => by simp [List.getElem?_replicate]; split <;> rfl, by simp [val, val_zeros]⟩
theorem TimOut.enter {os xs ys : List Nat} {k : Nat} (h : TimOut os xs ys k) : TimIn os xs ys k 0 0 := ⟨h.1, h.2.1, h.2.2.1, by simp [val]; exact h.2.2.2⟩
theorem TimIn.step {os xs ys : List Nat} {k j cy : Nat} (h : TimIn os xs ys k j cy) (hk : k < xs.length) (hj : j < ys.length) :
    TimIn (os.set (k + j) ((os[k + j]?.getD 0 + xs[k]?.getD 0 * ys[j]?.getD 0 + cy) % 65536)) xs ys k (j + 1) ((os[k + j]?.getD 0 + xs[k]?.getD 0 * ys[j]?.getD 0 + cy) / 65536) := by
  obtain ⟨h1, h2, h3, h4⟩ := h
  refine ⟨by simpa using h1, set_lt h2 _ _ (Nat.mod_lt _ (by omega)), fun p hp => by rw [List.getElem?_set_ne (by omega)]; exact h3 p hp, ?_⟩
  have := tim_step (j := j) (y := ys[j]?.getD 0) rfl (by omega) h4
  rw [val_take_succ, List.getD_eq_getElem?_getD]
  exact this
theorem TimIn.leave {os xs ys : List Nat} {k cy : Nat} (h : TimIn os xs ys k ys.length cy) (hk : k < xs.length) (hc : cy < 65536) : TimOut (os.set (k + ys.length) cy) xs ys (k + 1) := by
  obtain ⟨h1, h2, h3, h4⟩ := h
  refine ⟨by simpa using h1, set_lt h2 _ _ hc, fun p hp => by rw [List.getElem?_set_ne (by omega)]; exact h3 p (by omega), ?_⟩
  have := val_set 65536 os (k + ys.length) cy (by omega)
  rw [h3 _ (Nat.le_refl _)] at this
  rw [List.take_length] at h4
  rw [val_take_succ, List.getD_eq_getElem?_getD]
  have e : (val 65536 (xs.take k) + 65536 ^ k * xs[k]?.getD 0) * val 65536 ys = val 65536 (xs.take k) * val 65536 ys + 65536 ^ k * (xs[k]?.getD 0 * val 65536 ys) := by grind
  omega
theorem TimOut.end {os xs ys : List Nat} (h : TimOut os xs ys xs.length) : val 65536 os = val 65536 xs * val 65536 ys := by
  have := h.2.2.2; rwa [List.take_length] at this

/-! ### two digits of 16 bits as one of 32 -/
def pairs : List Nat → List Nat
  | [] => []
  | [a] => [a]
  | a :: b :: l => (a + 65536 * b) :: pairs l
theorem pairs_length : ∀ l, (pairs l).length = (l.length + 1) / 2
  | [] => by simp [pairs]
  | [_] => by simp [pairs]
  | a :: b :: l => by simp only [pairs, List.length_cons, pairs_length l]; omega
theorem pairs_val : ∀ l, val 4294967296 (pairs l) = val 65536 l
  | [] => rfl
  | [_] => rfl
  | a :: b :: l => by simp only [pairs, val, pairs_val l]; omega
theorem pairs_lt : ∀ {l : List Nat}, (∀ x ∈ l, x < 65536) → ∀ y ∈ pairs l, y < 4294967296
  | [], _ => by simp [pairs]
  | [a], h => by intro y hy; simp [pairs] at hy; subst hy; have := h y (by simp); omega
  | a :: b :: l, h => by
    intro y hy
    simp only [pairs, List.mem_cons] at hy
    rcases hy with rfl | hy
    · have := h a (by simp); have := h b (by simp); omega
    · exact pairs_lt (fun x hx => h x (by simp [hx])) y hy
theorem pairs_nil : ∀ {l : List Nat}, pairs l = [] → l = []
  | [], _ => rfl
  | [_], h => by simp [pairs] at h
  | _ :: _ :: _, h => by simp [pairs] at h
theorem pairs_noEnd : ∀ {l : List Nat}, NoEnd l → NoEnd (pairs l)
  | [], _ => fun h => absurd rfl h
  | [a], h => h
  | [a, b], h => by
    intro _
    have := h (by simp)
    simp [pairs] at *
    omega
  | a :: b :: c :: l, h => by
    have hc : NoEnd (c :: l) := by
      intro hne
      have := h (by simp)
      simpa using this
    have ih := pairs_noEnd hc
    have hne : pairs (c :: l) ≠ [] := fun e => by have := pairs_nil e; simp at this
    intro _
    have := ih hne
    simp only [pairs]
    rw [List.getLast_cons hne]
    exact this
theorem pairs_get : ∀ (l : List Nat) (k : Nat), (pairs l)[k]?.getD 0 = l[2 * k]?.getD 0 + 65536 * l[2 * k + 1]?.getD 0
  | [], k => by simp [pairs]
  | [a], 0 => by simp [pairs]
  | [a], k + 1 => by simp [pairs, show 2 * (k + 1) = 2 * k + 1 + 1 by omega]
  | a :: b :: l, 0 => by simp [pairs]
  | a :: b :: l, k + 1 => by
    have := pairs_get l k
    simp only [pairs, show 2 * (k + 1) = 2 * k + 1 + 1 by omega, List.getElem?_cons_succ]
    exact this
theorem pairs_dig (n : Nat) : pairs (dig 65536 n) = dig 4294967296 n := by
  have h := dig_val 4294967296 (by omega) (pairs (dig 65536 n)) (pairs_lt (dig_lt 65536 (by omega) n)) (pairs_noEnd (dig_noEnd 65536 (by omega) n))
  rw [pairs_val, val_dig 65536 (by omega)] at h
  exact h.symm
theorem pairs_take_succ (l : List Nat) (k : Nat) (h : 2 * k < l.length) : (pairs l).take (k + 1) = (pairs l).take k ++ [l[2 * k]?.getD 0 + 65536 * l[2 * k + 1]?.getD 0] := by
  have hk : k < (pairs l).length := by rw [pairs_length]; omega
  rw [List.take_add_one, ← pairs_get, List.getElem?_eq_getElem hk]
  rfl
theorem lim_d16 (z : Int) : ((d16 z).length + 1) / 2 = lim z := by
  unfold d16 lim digs
  rw [← pairs_length, pairs_dig]
theorem d16_len (z : Int) : (d16 z).length ≤ 2 * lim z := by have := lim_d16 z; omega

end Go.Proofs.YtmfmfpmkgmkgiaaGreatDoor

namespace Go.Proofs.YtmfmfpmkgmkgiaaGreatDoor
open Go.RowKit Go.Maps
open Rat
theorem D16.keep {w w' : World} {v : Value} {ds : List Nat} {zb : Nat} {cs : Array Value} (h : D16 w v ds) (hz : Blk w zb cs) (hn : ∀ u ∈ cs.toList, ∀ n, u ≠ .int .i64 n) (hg : w.grownBy w' (some zb)) : D16 w' v ds := by
  refine ⟨?_, h.2⟩
  rcases h.1 with h1 | ⟨b, o, c, rfl, h1, h2, h3⟩
  · exact .inl h1
  · refine .inr ⟨b, o, c, rfl, h1, h2, fun i hi => gb_cell hg (h3 i hi) ?_⟩
    intro e
    injection e with e
    subst e
    have h4 := h3 i hi
    rw [hz.cell] at h4
    obtain ⟨ho, hv⟩ := Array.getElem?_eq_some_iff.1 h4
    exact hn _ (by rw [← hv]; simp) _ rfl
theorem NZ.keep {w w' : World} {v : Value} {z : Int} {zb : Nat} {b : Bool} {A : Option Addr} {n c : Nat} (h : NZ w v z) (hz : Blk w zb #[.bool b, .slice A n c]) (hg : w.grownBy w' (some zb)) : NZ w' v z := by
  obtain ⟨u, rfl, h⟩ := h
  exact ⟨u, rfl, h.keep hz (by intro u hu n; simp at hu; rcases hu with rfl | rfl <;> simp) hg⟩

theorem gb_own_row' {a b c : World} {row : Option Nat} {e : TypeId} {size n : Nat} {v : Value} {xs : List Value} (h : a.grownBy b row) (ho : b.ownsRow a.heap.size e size v n xs) (k : b.grownBy c v.ownBlock) : a.grownBy c row := by
  rcases ho.2 with ⟨rfl, _⟩ | ⟨g, cap, cur, rfl, hb, _⟩
  · exact gb_trans h (gb_none k)
  · exact gb_new h k hb
theorem own_more' {w w' : World} {base : Nat} {e : TypeId} {size n : Nat} {v : Value} {xs : List Value} (h : w.ownsRow base e size v n xs) (hg : w.grownBy w' none) : w'.ownsRow base e size v n xs := h.kept hg (by cases v.ownBlock <;> simp)
theorem own_form {w : World} {base : Nat} {e : TypeId} {size n : Nat} {v : Value} {xs : List Value} (h : w.ownsRow base e size v (n + 1) xs) : ∃ g cap, v = .slice (some ⟨g, 0, none⟩) (n + 1) cap := by
  rcases h.2 with ⟨_, h0⟩ | ⟨g, cap, cur, rfl, _⟩
  · omega
  · exact ⟨g, cap, rfl⟩
set_option maxRecDepth 100000 in
set_option maxHeartbeats 40000000 in
theorem MGive_calls (w : World) (nv : Value) (z : Int) (hx : NZ w nv z) (lz : (d16 z).length ≤ 1099511627776) :
    Calls Tryz.prog 51 #[nv] w fun e w' => ∃ v, e = .returned (.agg #[.bool (decide (z < 0)), v]) ∧ Nums w' v (digs z) ∧ From w.heap.size v ∧ w.grownBy w' none := by
  obtain ⟨v, rfl, hd⟩ := hx
  obtain ⟨A, c, rfl, hl⟩ := hd.ctor
  have HP : Hid (pairs (d16 z) = digs z) := Lib.hid (pairs_dig _)
  generalize d16 z = ds at *
  generalize decide (z < 0) = neg at *
  have gw := gb_trans (gb_trans (gb_alloc w (.cells #[.bool neg, .slice A ds.length c] 122) none) (gb_alloc _ (.cells #[.bool false, .slice none 0 0] 49) none)) (gb_alloc _ (.cells #[.bool neg, .slice none 0 0] 49) none)
  have hB1 := (Blk.new w #[.bool neg, .slice A ds.length c] 122).more (gb_trans (gb_alloc _ (.cells #[.bool false, .slice none 0 0] 49) none) (gb_alloc _ (.cells #[.bool neg, .slice none 0 0] 49) none))
  have hB2 := (Blk.new (w.alloc (.cells #[.bool neg, .slice A ds.length c] 122)) #[.bool false, .slice none 0 0] 49).more (gb_alloc _ (.cells #[.bool neg, .slice none 0 0] 49) none)
  have hB3 := Blk.new ((w.alloc (.cells #[.bool neg, .slice A ds.length c] 122)).alloc (.cells #[.bool false, .slice none 0 0] 49)) #[.bool neg, .slice none 0 0] 49
  rw [World.size_alloc] at hB2 hB3
  rw [World.size_alloc] at hB3
  have HD := Lib.hid (hd.more gw)
  have HB1 := Lib.hid hB1
  have HB2 := Lib.hid hB2
  have HB3 := Lib.hid hB3
  have HGW := Lib.hid gw
  obtain ⟨b0, b1, _⟩ := (Blk.new w #[.bool neg, .slice A ds.length c] 122).two
  obtain ⟨b0, b1, _⟩ := ((Blk.new w #[.bool neg, .slice A ds.length c] 122).more (gb_alloc _ (.cells #[.bool false, .slice none 0 0] 49) none)).two
  clear hd hB1 hB2 hB3 gw
  go_enter Tryz.func51, Tryz.ntmps51
  go_wp2_with fail
  trace_state
  generalize ((w.alloc (.cells #[.bool neg, .slice A ds.length c] 122)).alloc (.cells #[.bool false, .slice none 0 0] 49)).alloc (.cells #[.bool neg, .slice none 0 0] 49) = wa at *
  generalize hs : w.heap.size = s at *
  have HS := Lib.hid hs
  clear hs b0 b1
  go_loopw [4] (fun iv wr => ∃ k : Nat, iv = .int .i64 ((2 * k : Nat) : Int) ∧ Hid (k ≤ (ds.length + 1) / 2 ∧ ∃ (Ab : Option Addr) (cb : Nat), wa.grownBy wr (some (s + 1 + 1)) ∧ Hid (Blk wr (s + 1 + 1) #[.bool neg, .slice Ab k cb]) ∧ Hid (wr.ownsRow wa.heap.size 56 1 (.slice Ab k cb) k (u32s ((pairs ds).take k))))) (fun iv _ => (ds.length + 1 - intOf iv).toNat)
  case atStart => exact ⟨0, rfl, Lib.hid ⟨by omega, none, 0, gb_refl _ _, HB3, Lib.hid (World.ownsRow_nil _ _ _ _)⟩⟩
  case round =>
    obtain ⟨k, rfl, hrr⟩ := hrel
    obtain ⟨hk, Ab, cb, hg, hblk, hown⟩ := hrr.out
    clear hrr
    obtain ⟨d0, d1, f0, f1⟩ := hblk.out.two
    have hlt1 := HB1.out.lt
    have hlt3 := HB3.out.lt
    obtain ⟨b0, b1, _⟩ := (HB1.out.other hg (by omega)).two
    have hne : (Value.slice Ab k cb).ownBlock ≠ some (s + 1 + 1) := fun e => by have := own_from hown.out _ e; omega
    have HNE := Lib.hid hne
    have hdk := HD.out.keep HB3.out (by intro u hu n; simp at hu; rcases hu with rfl | rfl <;> simp) hg
    have HDK := Lib.hid hdk
    clear hdk
    by_cases hlt : 2 * k < ds.length
    · obtain ⟨b1', o1, rfl, u1, lx1⟩ := HDK.out.at hlt
      have e0 : ((2 * k : Nat) : Int).toNat = 2 * k := by omega
      by_cases hlt2 : 2 * k + 1 < ds.length
      · obtain ⟨b2', o2, e, u2, ly1⟩ := HDK.out.at hlt2
        injection e with e; injection e with e1 e2
        subst e1 e2
        generalize hxk : ds.getD (2 * k) 0 = x at *
        generalize hyk : ds.getD (2 * k + 1) 0 = y at *
        have HXK := Lib.hid hxk
        have HYK := Lib.hid hyk
        clear hxk hyk
        have r1 : IntKind.u32.wrap (x : Int) = (x : Int) := IntWalk.u32_in _ (by omega)
        have r2 : IntKind.u32.wrap (y : Int) = (y : Int) := IntWalk.u32_in _ (by omega)
        have r3 : IntKind.u32.wrap ((y : Int) * 65536) = (y : Int) * 65536 := IntWalk.u32_in _ (by omega)
        have r4 : IntKind.u32.wrap ((x : Int) + (y : Int) * 65536) = (x : Int) + (y : Int) * 65536 := IntWalk.u32_in _ (by omega)
        have r5 : IntKind.i64.wrap (((2 * k : Nat) : Int) + 1) = ((2 * k : Nat) : Int) + 1 := IntWalk.i64_in _ (by omega)
        have r6 : (((2 * k : Nat) : Int) + 1).toNat = 2 * k + 1 := by omega
        have r7 : ((2 * k : Nat) : Int) + 1 < (ds.length : Int) := by omega
        have r8 : (0 : Int) ≤ ((2 * k : Nat) : Int) + 1 := by omega
        have r9 : ((2 * k : Nat) : Int) < (ds.length : Int) := by omega
        have r10 : (0 : Int) ≤ ((2 * k : Nat) : Int) := by omega
        have HTK : Hid ((pairs ds).take (k + 1) = (pairs ds).take k ++ [x + 65536 * y]) := Lib.hid (by
          have := pairs_take_succ ds k hlt
          rwa [← List.getD_eq_getElem?_getD, ← List.getD_eq_getElem?_getD, HXK.out, HYK.out] at this)
        have hs1 := hg.size
        have HG := Lib.hid hg
        have HLT := Lib.hid hlt
        have hkl : k ≤ 1099511627776 := by omega
        clear hne hg hlt
        go_wp2_with (first
          | (at_builtin; refine app_one wa.heap.size rfl (.tmp 39) (.tmp 41) 47 56 (.int .u32 0) 1 4 rfl Tryz.underlying47 u32info rfl (by omega) (by omega) (.slice Ab k cb) k (u32s ((pairs ds).take k)) #[.int .u32 ((x : Int) + (y : Int) * 65536)] (by rfl) hown.out (by rfl) (by rfl) (by simp [Value.oneCell']) (by omega) (by omega) ?_; intro v1 w3 hown3 hgrow hat; obtain ⟨g, cap, rfl⟩ := own_form hown3; obtain ⟨d0, d1, f0, f1⟩ := (hblk.out.row hgrow HNE.out).two; have HX := Lib.hid (hblk.out.row hgrow HNE.out); have H3 := Lib.hid (And.intro hown3 hgrow); clear hown3 hgrow hat)
          | fail)
        have hlt := HLT.out
        have hgr := gb_trans (gb_own_row' HG.out hown.out H3.out.2) (gb_set w3 (s + 1 + 1) 1 (.slice (some ⟨g, 0, none⟩) (k + 1) cap))
        have hbl := Lib.hid (show Blk _ (s + 1 + 1) #[.bool neg, .slice (some ⟨g, 0, none⟩) (k + 1) cap] from HX.out.set 1 (.slice (some ⟨g, 0, none⟩) (k + 1) cap))
        have how : Hid ((w3.setCell ⟨s + 1 + 1, 1, none⟩ (.slice (some ⟨g, 0, none⟩) (k + 1) cap)).ownsRow wa.heap.size 56 1 (.slice (some ⟨g, 0, none⟩) (k + 1) cap) (k + 1) (u32s ((pairs ds).take (k + 1)))) := Lib.hid (by
          have h3 := H3.out.1
          have hgs := own_from h3 g rfl
          have hlt2 := HB3.out.lt
          have h4 := h3.kept (gb_set w3 (s + 1 + 1) 1 (.slice (some ⟨g, 0, none⟩) (k + 1) cap)) (.inr (by simp [Value.ownBlock]; omega))
          rw [HTK.out]
          unfold u32s at *
          rw [List.map_append]
          have e : ((x : Int) + (y : Int) * 65536) = ((x + 65536 * y : Nat) : Int) := by omega
          rw [e] at h4
          simpa using h4)
        exact ⟨⟨k + 1, by first | rfl | (simp; omega) | go_num, Lib.hid ⟨by omega, _, _, hgr, hbl, how⟩⟩, by simp [intOf]; omega⟩
      · have hyk : ds.getD (2 * k + 1) 0 = 0 := getD_out hlt2
        generalize hxk : ds.getD (2 * k) 0 = x at *
        have HXK := Lib.hid hxk
        have HYK := Lib.hid hyk
        clear hxk hyk
        have r1 : IntKind.u32.wrap (x : Int) = (x : Int) := IntWalk.u32_in _ (by omega)
        have r5 : IntKind.i64.wrap (((2 * k : Nat) : Int) + 1) = ((2 * k : Nat) : Int) + 1 := IntWalk.i64_in _ (by omega)
        have r7 : ¬ ((2 * k : Nat) : Int) + 1 < (ds.length : Int) := by omega
        have r9 : ((2 * k : Nat) : Int) < (ds.length : Int) := by omega
        have r10 : (0 : Int) ≤ ((2 * k : Nat) : Int) := by omega
        have HTK : Hid ((pairs ds).take (k + 1) = (pairs ds).take k ++ [x]) := Lib.hid (by
          have := pairs_take_succ ds k hlt
          rw [← List.getD_eq_getElem?_getD, ← List.getD_eq_getElem?_getD, HXK.out, HYK.out] at this
          simpa using this)
        have hs1 := hg.size
        have HG := Lib.hid hg
        have HLT := Lib.hid hlt
        have hkl : k ≤ 1099511627776 := by omega
        clear hne hg hlt
        go_wp2_with (first
          | (at_builtin; refine app_one wa.heap.size rfl (.tmp 39) (.tmp 41) 47 56 (.int .u32 0) 1 4 rfl Tryz.underlying47 u32info rfl (by omega) (by omega) (.slice Ab k cb) k (u32s ((pairs ds).take k)) #[.int .u32 ((x : Int))] (by rfl) hown.out (by rfl) (by rfl) (by simp [Value.oneCell']) (by omega) (by omega) ?_; intro v1 w3 hown3 hgrow hat; obtain ⟨g, cap, rfl⟩ := own_form hown3; obtain ⟨d0, d1, f0, f1⟩ := (hblk.out.row hgrow HNE.out).two; have HX := Lib.hid (hblk.out.row hgrow HNE.out); have H3 := Lib.hid (And.intro hown3 hgrow); clear hown3 hgrow hat)
          | fail)
        have hlt := HLT.out
        have hgr := gb_trans (gb_own_row' HG.out hown.out H3.out.2) (gb_set w3 (s + 1 + 1) 1 (.slice (some ⟨g, 0, none⟩) (k + 1) cap))
        have hbl := Lib.hid (show Blk _ (s + 1 + 1) #[.bool neg, .slice (some ⟨g, 0, none⟩) (k + 1) cap] from HX.out.set 1 (.slice (some ⟨g, 0, none⟩) (k + 1) cap))
        have how : Hid ((w3.setCell ⟨s + 1 + 1, 1, none⟩ (.slice (some ⟨g, 0, none⟩) (k + 1) cap)).ownsRow wa.heap.size 56 1 (.slice (some ⟨g, 0, none⟩) (k + 1) cap) (k + 1) (u32s ((pairs ds).take (k + 1)))) := Lib.hid (by
          have h3 := H3.out.1
          have hgs := own_from h3 g rfl
          have hlt2 := HB3.out.lt
          have h4 := h3.kept (gb_set w3 (s + 1 + 1) 1 (.slice (some ⟨g, 0, none⟩) (k + 1) cap)) (.inr (by simp [Value.ownBlock]; omega))
          rw [HTK.out]
          unfold u32s at *
          rw [List.map_append]
          have e : ((x : Int)) = ((x : Nat) : Int) := by omega
          rw [e] at h4
          simpa using h4)
        exact ⟨⟨k + 1, by first | rfl | (simp; omega) | go_num, Lib.hid ⟨by omega, _, _, hgr, hbl, how⟩⟩, by simp [intOf]; omega⟩
    · have hkk : (pairs ds).take k = pairs ds := List.take_of_length_le (by rw [pairs_length]; omega)
      have r9 : ¬ ((2 * k : Nat) : Int) < (ds.length : Int) := by omega
      have hlen : k = (pairs ds).length := by rw [pairs_length]; omega
      have ho := hown.out
      rw [hkk, HP.out] at ho
      have hn : Nums wr (.slice Ab k cb) (digs z) := ⟨own_row ho, digs_lt z⟩
      have HNM := Lib.hid hn
      have HFR := Lib.hid (own_from ho)
      have HG := Lib.hid (gb_new HGW.out hg (by have := HS.out; omega))
      obtain ⟨y0, y1, e0, e1⟩ := (HB2.out.other hg (by omega)).two
      have HSZ : Hid (s + 1 + 1 < wa.heap.size) := Lib.hid hlt3
      clear hn ho hkk hlen hown hblk hne hg
      go_wp2
      try simp only [Exit.inBlock, Exit.then]
      have hg6 : wr.grownBy ((wr.setCell ⟨s + 1, 0, none⟩ (.bool neg)).setCell ⟨s + 1, 1, none⟩ (.slice Ab k cb)) (some (s + 1)) := gb_trans (gb_set _ _ _ _) (gb_set _ _ _ _)
      have hfar : (Value.slice Ab k cb).ownBlock ≠ some (s + 1) := fun e => by have := HFR.out _ e; have := HSZ.out; omega
      refine bodyPost_ret (v := .agg #[.bool neg, .slice Ab k cb]) (by simp [results, Tryz.results51, go_sem, *]) rfl ⟨.slice Ab k cb, rfl, HNM.out.apart hg6 hfar, fun b hb => ?_, gb_new HG.out hg6 (by have := HS.out; omega)⟩
      have := HFR.out b hb
      have := HS.out
      have := HSZ.out
      omega

end Go.Proofs.YtmfmfpmkgmkgiaaGreatDoor
