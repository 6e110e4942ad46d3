/- Contracts of the program's functions, and what they rest on: RatC RatD NumA. -/
import Derived.Test.YtmfmfpmkgmkgiaaGreatDoorMaf
set_option linter.unusedVariables false
set_option linter.unusedSimpArgs false
namespace Go.Proofs.YtmfmfpmkgmkgiaaGreatDoor
open Go.RowKit
open Rat

def ratE (n1 n2 : Bool) (xs ys : List Nat) : Int :=
  if okI n1 n2 xs ys then (if n2 = true ∨ ys = [] ∨ Nat.gcd (val 4294967296 xs) (val 4294967296 ys) ≠ 1 then 20 else 0) else 10
theorem digs_one_iff (G : Nat) : (digs (G : Int)).length = 1 → ∃ d, digs (G : Int) = [d] ∧ d = G := by
  intro h
  obtain ⟨d, hd⟩ := List.length_eq_one_iff.1 h
  have := val_digs (G : Int)
  rw [hd] at this
  simp [val] at this
  exact ⟨d, hd, this⟩

set_option maxRecDepth 100000 in
set_option maxHeartbeats 40000000 in
theorem RCheck_calls (w : World) (n1 n2 : Bool) (v1 v2 : Value) (xs ys : List Nat) (hx : Nums w v1 xs) (hy : Nums w v2 ys) :
    Calls Tryz.prog 185 #[.agg #[.bool n1, v1, .bool n2, v2]] w fun e w' => e = .returned (.int .i64 (ratE n1 n2 xs ys)) ∧ w.grownBy w' none := by
  obtain ⟨A1, m1, rfl, _, _⟩ := hx.form
  obtain ⟨A2, m2, rfl, hm2, hm2'⟩ := hy.form
  have gw := gb_alloc w (.cells #[.bool n1, .slice A1 xs.length m1, .bool n2, .slice A2 ys.length m2] 94) none
  have hB := Blk.new w #[.bool n1, .slice A1 xs.length m1, .bool n2, .slice A2 ys.length m2] 94
  have hx1 := hx.more gw
  have hy1 := hy.more gw
  have hE : ratE n1 n2 xs ys = if okI n1 n2 xs ys then (if n2 = true ∨ ys = [] ∨ Nat.gcd (val 4294967296 xs) (val 4294967296 ys) ≠ 1 then 20 else 0) else 10 := rfl
  have HE := Lib.hid hE
  clear hE
  obtain ⟨b0, b1, b2, b3, _⟩ := hB.four
  generalize hny : ys.length = ny at *
  have HNY := Lib.hid hny
  have HHY := Lib.hid hy1
  have HHX := Lib.hid hx1
  clear hny hx hy
  go_enter Tryz.func185, Tryz.ntmps185
  go_wp2_with fail
  generalize w.alloc (.cells #[.bool n1, .slice A1 xs.length m1, .bool n2, .slice A2 ny m2] 94) = wa at *
  generalize hs : w.heap.size = s at *
  refine (LCheck_calls wa n1 _ xs HHX.out).mono ?_
  rintro e w1 ⟨rfl, hg⟩
  by_cases hk1 : IntOK n1 xs
  · have HK1 := Lib.hid hk1
    rw [if_pos hk1]
    clear hk1
    have c0 := gb_cell hg b0 (by simp)
    have c1 := gb_cell hg b1 (by simp)
    have c2 := gb_cell hg b2 (by simp)
    have c3 := gb_cell hg b3 (by simp)
    clear hB b0 b1 b2 b3 hx1 hy1
    go_wp2_with fail
    refine (LCheck_calls w1 n2 _ ys (HHY.out.more hg)).mono ?_
    rintro e w2 ⟨rfl, hg2⟩
    by_cases hk2 : IntOK n2 ys
    · have HOK : Hid (okI n1 n2 xs ys) := Lib.hid ⟨HK1.out, hk2⟩
      rw [if_pos hk2]
      clear hk2
      have d0 := gb_cell hg2 c0 (by simp)
      have d1 := gb_cell hg2 c1 (by simp)
      have d2 := gb_cell hg2 c2 (by simp)
      have d3 := gb_cell hg2 c3 (by simp)
      have g2 := gb_trans hg hg2
      clear c0 c1 c2 c3 hg hg2
      cases n2 with
      | true =>
        go_wp2
        go_ret
        rw [HE.out, if_pos HOK.out, if_pos (by simp)]
        exact ⟨rfl, gb_trans gw g2⟩
      | false =>
        by_cases h0 : ny = 0
        · subst h0
          go_wp2
          go_ret
          rw [HE.out, if_pos HOK.out, if_pos (.inr (.inl (List.eq_nil_of_length_eq_zero (by rw [HNY.out]))))]
          exact ⟨rfl, gb_trans gw g2⟩
        · have hne : Hid (ys ≠ []) := Lib.hid (fun e => h0 (by have := HNY.out; rw [e] at this; simpa using this.symm))
          have t0 : ((ny : Int) == 0) = false := by rw [beq_eq_false_iff_ne]; omega
          clear h0
          go_wp2_with fail
          refine (LGcd_calls w2 n1 false _ _ xs ys (HHX.out.more g2) (HHY.out.more g2)).mono ?_
          rintro e w3 ⟨sl, rfl, hn3, hf3, hg3⟩
          rw [if_pos HOK.out] at hn3
          rw [if_pos HOK.out]
          have g3 := gb_trans gw (gb_trans g2 hg3)
          obtain ⟨G, hG⟩ : ∃ G, Nat.gcd (val 4294967296 xs) (val 4294967296 ys) = G := ⟨_, rfl⟩
          rw [hG] at hn3
          have HG := Lib.hid hG
          clear hG g2 d0 d1 d2 d3 hg3
          obtain ⟨A3, m3, rfl, hA1, hA2, hA3⟩ := hn3.read
          by_cases hl1 : (digs (G : Int)).length = 1
          · obtain ⟨dg, hdg, hdG⟩ := digs_one_iff G hl1
            obtain ⟨b, o, rfl, hc⟩ := hA3 (by omega)
            have hc0 := hc 0 (by omega)
            rw [hdg] at hc0
            simp only [List.getElem?_cons_zero, Option.getD_some, Nat.add_zero] at hc0
            subst hdG
            have hal := gb_cell (gb_alloc w3 (.cells #[.bool false, .slice (some ⟨b, o, none⟩) (digs (dg : Int)).length m3] 49) none) hc0 (by simp)
            rw [hl1] at hal ⊢
            have gf := gb_trans g3 (gb_alloc w3 (.cells #[.bool false, .slice (some ⟨b, o, none⟩) 1 m3] 49) none)
            have hd32 : dg < 4294967296 := by have := digs_lt (dg : Int) dg (by rw [hdg]; simp); exact this
            clear hc hA3 hn3 hdg hl1
            by_cases h1 : dg = 1
            · have HX : Hid (¬ (false = true ∨ ys = [] ∨ Nat.gcd (val 4294967296 xs) (val 4294967296 ys) ≠ 1)) := Lib.hid (by have := hne.out; have := HG.out; simp_all)
              subst h1
              go_wp2
              go_ret
              rw [HE.out, if_pos HOK.out, if_neg HX.out]
              exact ⟨rfl, gf⟩
            · have HX : Hid (false = true ∨ ys = [] ∨ Nat.gcd (val 4294967296 xs) (val 4294967296 ys) ≠ 1) := Lib.hid (by have := hne.out; have := HG.out; simp_all)
              have t1 : ((dg : Int) == 1) = false := by rw [beq_eq_false_iff_ne]; omega
              clear h1
              go_wp2
              go_ret
              rw [HE.out, if_pos HOK.out, if_pos HX.out]
              exact ⟨rfl, gf⟩
          · have HX : Hid (false = true ∨ ys = [] ∨ Nat.gcd (val 4294967296 xs) (val 4294967296 ys) ≠ 1) := Lib.hid (.inr (.inr (by rw [HG.out]; intro e; apply hl1; rw [e]; decide)))
            have t1 : (((digs (G : Int)).length : Int) == 1) = false := by rw [beq_eq_false_iff_ne]; omega
            have gf := gb_trans g3 (gb_alloc w3 (.cells #[.bool false, .slice A3 (digs (G : Int)).length m3] 49) none)
            clear hl1 hA3 hn3
            generalize (digs (G : Int)).length = lg at *
            have t2 : ¬ ((lg : Int) = 1) := by simpa using t1
            have t3 : ((lg : Int) != 1) = true := by simpa using t1
            clear t1
            go_wp2
            go_ret
            rw [HE.out, if_pos HOK.out, if_pos HX.out]
            exact ⟨rfl, gf⟩
    · have hno : ¬ okI n1 n2 xs ys := fun h => hk2 h.2
      have HNO := Lib.hid hno
      rw [if_neg hk2]
      clear hk2 hno
      go_wp2
      go_ret
      rw [HE.out, if_neg HNO.out]
      exact ⟨rfl, gb_trans gw (gb_trans hg hg2)⟩
  · have hno : ¬ okI n1 n2 xs ys := fun h => hk1 h.1
    have HNO := Lib.hid hno
    rw [if_neg hk1]
    clear hk1 hno
    go_wp2
    go_ret
    rw [HE.out, if_neg HNO.out]
    exact ⟨rfl, gb_trans gw hg⟩

end Go.Proofs.YtmfmfpmkgmkgiaaGreatDoor

namespace Go.Proofs.YtmfmfpmkgmkgiaaGreatDoor
open Go.RowKit
open Rat

def roundV (n1 n2 : Bool) (xs ys : List Nat) : Int :=
  if ratE n1 n2 xs ys = 0 then (if OnG (nearI (sg n1 (val 4294967296 xs)) (sg n2 (val 4294967296 ys))) then nearI (sg n1 (val 4294967296 xs)) (sg n2 (val 4294967296 ys)) else 0) else 0
def roundE (n1 n2 : Bool) (xs ys : List Nat) : Int :=
  if ratE n1 n2 xs ys = 0 then (if OnG (nearI (sg n1 (val 4294967296 xs)) (sg n2 (val 4294967296 ys))) then 0 else 4) else ratE n1 n2 xs ys
theorem ratE_ok {n1 n2 : Bool} {xs ys : List Nat} (h : ratE n1 n2 xs ys = 0) : okI n1 n2 xs ys ∧ n2 = false ∧ ys ≠ [] ∧ Nat.gcd (val 4294967296 xs) (val 4294967296 ys) = 1 := by
  unfold ratE at h
  by_cases h1 : okI n1 n2 xs ys
  · rw [if_pos h1] at h
    by_cases h2 : n2 = true ∨ ys = [] ∨ Nat.gcd (val 4294967296 xs) (val 4294967296 ys) ≠ 1
    · rw [if_pos h2] at h; omega
    · refine ⟨h1, ?_, fun e => h2 (.inr (.inl e)), Classical.byContradiction fun e => h2 (.inr (.inr e))⟩
      cases n2
      · rfl
      · exact absurd (.inl rfl) h2
  · rw [if_neg h1] at h; omega
theorem ratE_pos {n1 n2 : Bool} {xs ys : List Nat} (h : ratE n1 n2 xs ys = 0) : 0 < sg n2 (val 4294967296 ys) := by
  obtain ⟨h1, rfl, h3, _⟩ := ratE_ok h
  have := val_pos_of_noEnd 4294967296 (by omega) ys h1.2.2.1 h3
  simp [sg]
  omega

set_option maxRecDepth 100000 in
set_option maxHeartbeats 40000000 in
theorem Round_calls (w : World) (n1 n2 : Bool) (v1 v2 : Value) (xs ys : List Nat) (hx : Nums w v1 xs) (hy : Nums w v2 ys) :
    Calls Tryz.prog 129 #[.agg #[.bool n1, v1, .bool n2, v2]] w fun e w' => e = .returned (.tuple #[.int .i64 (roundV n1 n2 xs ys), .int .i64 (roundE n1 n2 xs ys)]) ∧ w.grownBy w' none := by
  obtain ⟨A1, m1, c1, rfl⟩ := hx.ctor
  obtain ⟨A2, m2, c2, rfl⟩ := hy.ctor
  have gw := gb_alloc w (.cells #[.bool n1, .slice A1 m1 c1, .bool n2, .slice A2 m2 c2] 94) none
  have hB := Blk.new w #[.bool n1, .slice A1 m1 c1, .bool n2, .slice A2 m2 c2] 94
  have hx1 := hx.more gw
  have hy1 := hy.more gw
  have K : ∀ w', (w.alloc (.cells #[.bool n1, .slice A1 m1 c1, .bool n2, .slice A2 m2 c2] 94)).grownBy w' none → w'.cell? ⟨w.heap.size, 0, none⟩ = some (.bool n1) ∧ w'.cell? ⟨w.heap.size, 1, none⟩ = some (.slice A1 m1 c1) ∧ w'.cell? ⟨w.heap.size, 2, none⟩ = some (.bool n2) ∧ w'.cell? ⟨w.heap.size, 3, none⟩ = some (.slice A2 m2 c2) := fun w' h => ⟨(hB.more h).cell 0, (hB.more h).cell 1, (hB.more h).cell 2, (hB.more h).cell 3⟩
  have HV := Lib.hid (show roundV n1 n2 xs ys = _ from rfl)
  have HE := Lib.hid (show roundE n1 n2 xs ys = _ from rfl)
  go_enter Tryz.func129, Tryz.ntmps129
  go_wp2_with fail
  generalize w.alloc (.cells #[.bool n1, .slice A1 m1 c1, .bool n2, .slice A2 m2 c2] 94) = wa at *
  generalize hs : w.heap.size = s at *
  refine (RCheck_calls wa n1 n2 _ _ xs ys hx1 hy1).mono ?_
  rintro e w1 ⟨rfl, hg⟩
  by_cases h0 : ratE n1 n2 xs ys = 0
  · have lx := (ratE_ok h0).1.1.1
    have ly := (ratE_ok h0).1.2.1
    have hpos := ratE_pos h0
    have L1 : lim (sg n1 (val 4294967296 xs)) ≤ 72 := Nat.le_trans (lim_sg hx.2) lx
    have HP := Lib.hid hpos
    have hV : roundV n1 n2 xs ys = (if OnG (nearI (sg n1 (val 4294967296 xs)) (sg n2 (val 4294967296 ys))) then nearI (sg n1 (val 4294967296 xs)) (sg n2 (val 4294967296 ys)) else 0) := if_pos h0
    have hE : roundE n1 n2 xs ys = (if OnG (nearI (sg n1 (val 4294967296 xs)) (sg n2 (val 4294967296 ys))) then 0 else 4) := if_pos h0
    rw [h0]
    obtain ⟨V, hVV⟩ : ∃ V, (if OnG (nearI (sg n1 (val 4294967296 xs)) (sg n2 (val 4294967296 ys))) then nearI (sg n1 (val 4294967296 xs)) (sg n2 (val 4294967296 ys)) else 0) = V := ⟨_, rfl⟩
    obtain ⟨E, hEE⟩ : ∃ E : Int, (if OnG (nearI (sg n1 (val 4294967296 xs)) (sg n2 (val 4294967296 ys))) then (0 : Int) else 4) = E := ⟨_, rfl⟩
    rw [hVV] at hV
    rw [hEE] at hE
    have RV := Lib.hid hV
    have RE := Lib.hid hE
    have RVV := Lib.hid hVV
    have REE := Lib.hid hEE
    clear hVV hEE
    have hx2 := hx1.more hg
    have hy2 := hy1.more hg
    have K1 : ∀ w', w1.grownBy w' none → w'.cell? ⟨s, 0, none⟩ = some (.bool n1) ∧ w'.cell? ⟨s, 1, none⟩ = some (.slice A1 m1 c1) ∧ w'.cell? ⟨s, 2, none⟩ = some (.bool n2) ∧ w'.cell? ⟨s, 3, none⟩ = some (.slice A2 m2 c2) := fun w' h => K w' (gb_trans hg h)
    obtain ⟨k0, k1, k2, k3⟩ := K1 w1 (gb_refl _ _)
    have HK := Lib.hid K1
    clear h0 hpos hV hE K K1 hB hx hy hx1 hy1 HV HE
    go_wp2_with fail
    go_region_held3 (fun w' => w'.cell? ⟨s, 0, none⟩ = some (.bool n1) ∧ w'.cell? ⟨s, 1, none⟩ = some (.slice A1 m1 c1) ∧ w'.cell? ⟨s, 2, none⟩ = some (.bool n2) ∧ w'.cell? ⟨s, 3, none⟩ = some (.slice A2 m2 c2)) ((refine HK.out _ ?_; (focus ((repeat (first | assumption | exact gb_refl _ _ | exact gb_drew _ _ | exact gb_alloc _ _ _ | refine gb_trans ?_ (gb_alloc _ _ _) | refine gb_trans ?_ (gb_drew _ _) | refine gb_trans ?_ (by assumption))); done))))
     (first
     | (go_at_call_of 58 (Value.agg #[.bool n1, .slice A1 m1 c1]); refine (Take_calls _ n1 _ xs (hx2.more (by (focus ((repeat (first | assumption | exact gb_refl _ _ | exact gb_drew _ _ | exact gb_alloc _ _ _ | refine gb_trans ?_ (gb_alloc _ _ _) | refine gb_trans ?_ (gb_drew _ _) | refine gb_trans ?_ (by assumption))); done)))) (by omega)).mono ?_; rintro e w2 ⟨bb2, rfl, hi2, hb2, hg2⟩)
     | (go_at_call 58; refine (Take_calls _ n2 _ ys (hy2.more (by (focus ((repeat (first | assumption | exact gb_refl _ _ | exact gb_drew _ _ | exact gb_alloc _ _ _ | refine gb_trans ?_ (gb_alloc _ _ _) | refine gb_trans ?_ (gb_drew _ _) | refine gb_trans ?_ (by assumption))); done)))) (by omega)).mono ?_; rintro e w3 ⟨bb3, rfl, hi3, hb3, hg3⟩)
     | (go_at_call 187; refine (Near_calls _ bb2 0 bb3 0 _ _ (hi2.at.more (by (focus ((repeat (first | assumption | exact gb_refl _ _ | exact gb_drew _ _ | exact gb_alloc _ _ _ | refine gb_trans ?_ (gb_alloc _ _ _) | refine gb_trans ?_ (gb_drew _ _) | refine gb_trans ?_ (by assumption))); done)))) (hi3.at.more (by (focus ((repeat (first | assumption | exact gb_refl _ _ | exact gb_drew _ _ | exact gb_alloc _ _ _ | refine gb_trans ?_ (gb_alloc _ _ _) | refine gb_trans ?_ (gb_drew _ _) | refine gb_trans ?_ (by assumption))); done)))) (by omega) HP.out).mono ?_; rintro e w4 ⟨bb4, rfl, hi4, hb4, hg4⟩)
     | (go_at_call 186; refine (Grid_calls _ bb4 0 _ hi4.at).mono ?_; rintro e w5 ⟨rfl, rfl⟩; rw [RVV.out, REE.out]))
    all_goals
      go_wp2
      go_ret2
      rw [RV.out, RE.out]
      exact ⟨rfl, gb_trans gw (gb_trans hg (by (focus ((repeat (first | assumption | exact gb_refl _ _ | exact gb_drew _ _ | exact gb_alloc _ _ _ | refine gb_trans ?_ (gb_alloc _ _ _) | refine gb_trans ?_ (gb_drew _ _) | refine gb_trans ?_ (by assumption))); done))))⟩
  · have hV : roundV n1 n2 xs ys = 0 := if_neg h0
    have hE : roundE n1 n2 xs ys = ratE n1 n2 xs ys := if_neg h0
    have RV := Lib.hid hV
    have RE := Lib.hid hE
    clear HV HE hV hE
    generalize ratE n1 n2 xs ys = r at *
    have t0 : (r == 0) = false := by rw [beq_eq_false_iff_ne]; exact h0
    go_wp2
    go_ret2
    rw [RV.out, RE.out]
    exact ⟨rfl, gb_trans gw hg⟩

end Go.Proofs.YtmfmfpmkgmkgiaaGreatDoor

namespace Go.Proofs.YtmfmfpmkgmkgiaaGreatDoor
open Go.RowKit
open Rat
def NumOK (m e : Int) : Prop := (m = 0 ∧ e = 0) ∨ (m ≠ 0 ∧ -999999999 ≤ m ∧ m ≤ 999999999 ∧ m.tmod 10 ≠ 0 ∧ -18 ≤ e ∧ e ≤ 9)
instance (m e : Int) : Decidable (NumOK m e) := by unfold NumOK; infer_instance

set_option maxRecDepth 100000 in
set_option maxHeartbeats 40000000 in
theorem NValid_calls (w : World) (m e : Int) (hm1 : -9223372036854775808 ≤ m) (hm2 : m ≤ 9223372036854775807) (he1 : -9223372036854775808 ≤ e) (he2 : e ≤ 9223372036854775807) :
    Calls Tryz.prog 88 #[.agg #[.int .i64 m, .int .i64 e]] w fun o w' => o = .returned (.bool (decide (NumOK m e))) ∧ w.grownBy w' none := by
  have gw := gb_alloc w (.cells #[.int .i64 m, .int .i64 e] 25) none
  have hB := Blk.new w #[.int .i64 m, .int .i64 e] 25
  obtain ⟨b0, b1, _⟩ := hB.two
  clear hB
  by_cases h0 : m = 0
  · subst h0
    have hr : decide (NumOK 0 e) = decide (e = 0) := by rw [decide_eq_decide]; unfold NumOK; omega
    have HR := Lib.hid hr
    clear hr
    go_enter Tryz.func88, Tryz.ntmps88
    go_wp2
    go_ret
    rw [HR.out]
    exact ⟨ret_bool (by by_cases he : e = 0 <;> simp [he]), gw⟩
  · have t0 : (m == 0) = false := by rw [beq_eq_false_iff_ne]; exact h0
    have hr : decide (NumOK m e) = (decide (-999999999 ≤ m) && decide (m ≤ 999999999) && decide (m.tmod 10 ≠ 0) && decide (-18 ≤ e) && decide (e ≤ 9)) := by
      rw [Bool.eq_iff_iff]; simp [NumOK, h0, and_assoc]
    have HR := Lib.hid hr
    clear h0 hr
    go_enter Tryz.func88, Tryz.ntmps88
    go_wp2
    all_goals
      go_ret
      refine ⟨?_, gw⟩
      rw [HR.out]
      generalize m.tmod 10 = r at *
      refine ret_bool ?_
      rw [Bool.eq_iff_iff]
      simp
      try omega

end Go.Proofs.YtmfmfpmkgmkgiaaGreatDoor
