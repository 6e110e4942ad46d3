/- Contracts of the program's functions, and what they rest on: Wide Limb LimbB LimbC RatA. -/
import Derived.Test.YtmfmfpmkgmkgiaaGreatDoorMae
set_option linter.unusedVariables false
set_option linter.unusedSimpArgs false
namespace Go.Proofs.YtmfmfpmkgmkgiaaGreatDoor
open Go.RowKit
open Rat
def Blk (w : World) (b : Nat) (cs : Array Value) : Prop := ∃ T, w.heap[b]? = some (.cells cs T (0, 0))
theorem Blk.lt {w : World} {b : Nat} {cs : Array Value} (h : Blk w b cs) : b < w.heap.size := by obtain ⟨T, h⟩ := h; exact lt_of_heap h
theorem Blk.new (w : World) (cs : Array Value) (T : TypeId) : Blk (w.alloc (.cells cs T)) w.heap.size cs := ⟨T, heap_alloc_new _ _⟩
theorem Blk.more {w w' : World} {b : Nat} {cs : Array Value} (h : Blk w b cs) (hg : w.grownBy w' none) : Blk w' b cs := by
  obtain ⟨T, h⟩ := h; exact ⟨T, gb_heap hg h (by simp)⟩
theorem Blk.other {w w' : World} {b r : Nat} {cs : Array Value} (h : Blk w b cs) (hg : w.grownBy w' (some r)) (hne : b ≠ r) : Blk w' b cs := by
  obtain ⟨T, h⟩ := h; exact ⟨T, gb_heap hg h (by simpa using hne)⟩
theorem Blk.cell {w : World} {b : Nat} {cs : Array Value} (h : Blk w b cs) (o : Nat) : w.cell? ⟨b, o, none⟩ = cs[o]? := by obtain ⟨T, h⟩ := h; exact cell_of_heap h o
theorem Blk.free {w : World} {b : Nat} {cs : Array Value} (h : Blk w b cs) (o : Nat) : w.frozen? ⟨b, o, none⟩ = false := by obtain ⟨T, h⟩ := h; exact free_of_heap h o
theorem Blk.set {w : World} {b : Nat} {cs : Array Value} (h : Blk w b cs) (o : Nat) (v : Value) : Blk (w.setCell ⟨b, o, none⟩ v) b (cs.setIfInBounds o v) := by obtain ⟨T, h⟩ := h; exact ⟨T, heap_set h v⟩
theorem Blk.drew {w : World} {b : Nat} {cs : Array Value} (h : Blk w b cs) : Blk w.drew b cs := h.more (gb_drew _ _)
theorem Blk.two {w : World} {b : Nat} {x y : Value} (h : Blk w b #[x, y]) : w.cell? ⟨b, 0, none⟩ = some x ∧ w.cell? ⟨b, 1, none⟩ = some y ∧ w.frozen? ⟨b, 0, none⟩ = false ∧ w.frozen? ⟨b, 1, none⟩ = false :=
  ⟨h.cell 0, h.cell 1, h.free 0, h.free 1⟩
theorem Blk.four {w : World} {b : Nat} {x y z u : Value} (h : Blk w b #[x, y, z, u]) : w.cell? ⟨b, 0, none⟩ = some x ∧ w.cell? ⟨b, 1, none⟩ = some y ∧ w.cell? ⟨b, 2, none⟩ = some z ∧ w.cell? ⟨b, 3, none⟩ = some u ∧ w.frozen? ⟨b, 0, none⟩ = false ∧ w.frozen? ⟨b, 1, none⟩ = false ∧ w.frozen? ⟨b, 2, none⟩ = false ∧ w.frozen? ⟨b, 3, none⟩ = false :=
  ⟨h.cell 0, h.cell 1, h.cell 2, h.cell 3, h.free 0, h.free 1, h.free 2, h.free 3⟩

theorem Nums.ctor {w : World} {v : Value} {xs : List Nat} (h : Nums w v xs) : ∃ A n c, v = .slice A n c := by
  obtain ⟨A, c, rfl, _⟩ := h.form
  exact ⟨_, _, _, rfl⟩

set_option maxHeartbeats 40000000 in
theorem Take_calls (w : World) (neg : Bool) (v : Value) (xs : List Nat) (hx : Nums w v xs) (lx : xs.length ≤ 1099511627776) :
    Calls Tryz.prog 58 #[.agg #[.bool neg, v]] w fun e w' => ∃ b, e = .returned (.pointer (some ⟨b, 0, none⟩)) ∧ IntB w' b (sg neg (val 4294967296 xs)) ∧ w.heap.size ≤ b ∧ w.grownBy w' none := by
  obtain ⟨A, n, c, rfl⟩ := hx.ctor
  go_enter Tryz.func58, Tryz.ntmps58
  go_wp2_with fail
  refine (Of_calls _ neg _ xs (hx.more (gb_alloc _ _ _)) lx).mono ?_
  rintro e w1 ⟨b, rfl, hi, hb, hg⟩
  go_wp2
  go_ret
  exact ⟨b, rfl, hi, by simp at hb; omega, gb_trans (gb_alloc _ _ _) hg⟩

set_option maxHeartbeats 40000000 in
theorem Give_calls (w : World) (bx ox : Nat) (x : Int) (hx : IntAt w bx ox x) (lx : lim x ≤ 1099511627776) :
    Calls Tryz.prog 63 #[.pointer (some ⟨bx, ox, none⟩)] w fun e w' => ∃ v, e = .returned (.agg #[.bool (decide (x < 0)), v]) ∧ Nums w' v (digs x) ∧ From w.heap.size v ∧ w.grownBy w' none := by
  have gw := gb_alloc w (zint 49) none
  have hB := Blk.new w #[.bool false, .slice none 0 0] 49
  have hx1 := hx.more gw
  go_enter Tryz.func63, Tryz.ntmps63
  go_wp2_with fail
  refine (Sign_calls _ bx ox x hx1).mono ?_
  rintro e w1 ⟨rfl, rfl⟩
  go_wp2_with fail
  refine (Words_calls _ bx ox x hx1 lx).mono ?_
  rintro e w2 ⟨v, rfl, hn, hf, hg⟩
  obtain ⟨A, n, c, rfl⟩ := hn.ctor
  have hB2 := hB.more hg
  obtain ⟨c0, c1, f0, f1⟩ := hB2.two
  clear hB hx1
  go_wp2
  try simp only [Exit.inBlock, Exit.then]
  have hg3 : w2.grownBy ((w2.setCell ⟨w.heap.size, 0, none⟩ (.bool (decide (x < 0)))).setCell ⟨w.heap.size, 1, none⟩ (.slice A n c)) (some w.heap.size) := gb_trans (gb_set _ _ _ _) (gb_set _ _ _ _)
  refine bodyPost_ret (v := .agg #[.bool (decide (x < 0)), .slice A n c]) (by simp [results, Tryz.results63, go_sem, c0, c1]) rfl ⟨_, rfl, ?_, ?_, ?_⟩
  · exact hn.apart hg3 (fun e => by have := hf _ e; simp at this; omega)
  · exact hf.mono (by simp)
  · exact gb_new (gb_trans gw hg) hg3 (Nat.le_refl _)

theorem sg_natAbs (b : Bool) (n : Nat) : (sg b n).natAbs = n := by unfold sg; cases b <;> simp
theorem lim_sg {neg : Bool} {xs : List Nat} (h : ∀ x ∈ xs, x < 4294967296) : lim (sg neg (val 4294967296 xs)) ≤ xs.length := by
  rw [lim_le, sg_natAbs]
  exact val_lt 4294967296 xs h

set_option maxHeartbeats 40000000 in
theorem WLimbs_calls (w : World) (bx ox : Nat) (x : Int) (hx : IntAt w bx ox x) :
    Calls Tryz.prog 62 #[.pointer (some ⟨bx, ox, none⟩)] w fun e w' => e = .returned (.int .i64 (lim x)) ∧ w = w' := by
  go_enter Tryz.func62, Tryz.ntmps62
  go_wp2_with fail
  refine (Limbs_calls w bx ox x hx).mono ?_
  rintro e w1 ⟨rfl, rfl⟩
  go_wp2
  go_ret
  exact ⟨rfl, rfl⟩

set_option maxRecDepth 100000 in
set_option maxHeartbeats 40000000 in
theorem WRat_calls (w : World) (n1 n2 : Bool) (v1 v2 : Value) (xs ys : List Nat) (hx : Nums w v1 xs) (hy : Nums w v2 ys) (lx : xs.length ≤ 549755813888) (ly : ys.length ≤ 549755813888) (h0 : val 4294967296 ys ≠ 0) :
    Calls Tryz.prog 97 #[.agg #[.bool n1, v1, .bool n2, v2]] w fun e w' => ∃ b, e = .returned (.pointer (some ⟨b, 0, none⟩)) ∧ RatB w' b (sg n1 (val 4294967296 xs) /. sg n2 (val 4294967296 ys)) ∧ w.heap.size ≤ b ∧ w.grownBy w' none := by
  obtain ⟨A1, m1, c1, rfl⟩ := hx.ctor
  obtain ⟨A2, m2, c2, rfl⟩ := hy.ctor
  have gw := gb_alloc w (.cells #[.bool n1, .slice A1 m1 c1, .bool n2, .slice A2 m2 c2] 94) none
  have hB := Blk.new w #[.bool n1, .slice A1 m1 c1, .bool n2, .slice A2 m2 c2] 94
  have hx1 := hx.more gw
  have hy1 := hy.more gw
  have L1 : lim (sg n1 (val 4294967296 xs)) ≤ 549755813888 := Nat.le_trans (lim_sg hx.2) lx
  have L2 : lim (sg n2 (val 4294967296 ys)) ≤ 549755813888 := Nat.le_trans (lim_sg hy.2) ly
  have H0 : sg n2 (val 4294967296 ys) ≠ 0 := fun h => h0 (by have := sg_natAbs n2 (val 4294967296 ys); rw [h] at this; simpa using this.symm)
  obtain ⟨b0, b1, b2, b3, _⟩ := hB.four
  go_enter Tryz.func97, Tryz.ntmps97
  go_wp2
  generalize hw1 : w.alloc (.cells #[.bool n1, .slice A1 m1 c1, .bool n2, .slice A2 m2 c2] 94) = w1 at *
  have hs1 : w.heap.size < w1.heap.size := by rw [← hw1]; simp
  clear hw1
  generalize hs : w.heap.size = s at *
  go_region_held3 (fun w' => w'.cell? ⟨s, 0, none⟩ = some (.bool n1) ∧ w'.cell? ⟨s, 1, none⟩ = some (.slice A1 m1 c1) ∧ w'.cell? ⟨s, 2, none⟩ = some (.bool n2) ∧ w'.cell? ⟨s, 3, none⟩ = some (.slice A2 m2 c2))
    (first | go_keep | exact ⟨gb_cell (gb_trans (gb_trans (gb_of_drew hg2) hg3) hg4) b0 (by simp), gb_cell (gb_trans (gb_trans (gb_of_drew hg2) hg3) hg4) b1 (by simp), gb_cell (gb_trans (gb_trans (gb_of_drew hg2) hg3) hg4) b2 (by simp), gb_cell (gb_trans (gb_trans (gb_of_drew hg2) hg3) hg4) b3 (by simp)⟩ | exact ⟨gb_cell (gb_trans (gb_of_drew hg2) hg3) b0 (by simp), gb_cell (gb_trans (gb_of_drew hg2) hg3) b1 (by simp), gb_cell (gb_trans (gb_of_drew hg2) hg3) b2 (by simp), gb_cell (gb_trans (gb_of_drew hg2) hg3) b3 (by simp)⟩ | exact ⟨gb_cell (gb_of_drew hg2) b0 (by simp), gb_cell (gb_of_drew hg2) b1 (by simp), gb_cell (gb_of_drew hg2) b2 (by simp), gb_cell (gb_of_drew hg2) b3 (by simp)⟩)
    (first
     | (go_at_call_of 58 (Value.agg #[.bool n1, .slice A1 m1 c1]); refine (Take_calls _ n1 _ xs hx1.drew (by omega)).mono ?_; rintro e w2 ⟨bb2, rfl, hi2, hb2, hg2⟩)
     | (go_at_call 58; refine (Take_calls w2 n2 _ ys (hy1.more (gb_of_drew hg2)) (by omega)).mono ?_; rintro e w3 ⟨bb3, rfl, hi3, hb3, hg3⟩)
     | (go_at_call 165; refine (Frac_calls w3 bb2 0 bb3 0 _ _ (hi2.more hg3).at hi3.at L1 L2 H0).mono ?_; rintro e w4 ⟨bb4, rfl, hi4, hb4, hg4⟩))
  go_wp2
  go_ret
  exact ⟨bb4, rfl, hi4, by have := hg2.size; have := hg3.size; (try simp at *); omega, gb_trans gw (gb_trans (gb_trans (gb_of_drew hg2) hg3) hg4)⟩

set_option maxRecDepth 100000 in
set_option maxHeartbeats 40000000 in
theorem WFrac_calls (w : World) (bx : Nat) (q : Rat) (hx : RatB w bx q) (lx : LimQ q 1099511627776) :
    Calls Tryz.prog 130 #[.pointer (some ⟨bx, 0, none⟩)] w fun e w' => ∃ v1 v2, e = .returned (.agg #[.bool (decide (q.num < 0)), v1, .bool false, v2]) ∧ Nums w' v1 (digs q.num) ∧ Nums w' v2 (digs (q.den : Int)) ∧ From w.heap.size v1 ∧ From w.heap.size v2 ∧ w.grownBy w' none := by
  have l1 := lx.1
  have l2 := lx.2
  have gw := gb_alloc w (.cells #[.bool false, .slice none 0 0, .bool false, .slice none 0 0] 94) none
  have hB := Blk.new w #[.bool false, .slice none 0 0, .bool false, .slice none 0 0] 94
  have hs1 : (w.alloc (.cells #[.bool false, .slice none 0 0, .bool false, .slice none 0 0] 94)).heap.size = w.heap.size + 1 := by simp
  have hd : decide ((q.den : Int) < 0) = false := decide_eq_false (by omega)
  have HD := Lib.hid hd
  clear hd
  go_enter Tryz.func130, Tryz.ntmps130
  go_wp2_with fail
  generalize w.alloc (.cells #[.bool false, .slice none 0 0, .bool false, .slice none 0 0] 94) = w1 at *
  generalize hs : w.heap.size = s at *
  refine (Num_calls w1 bx q (hx.more gw) l1).mono ?_
  rintro e w2 ⟨bn, rfl, hi2, hb2, hg2⟩
  go_wp2_with fail
  refine (Give_calls w2 bn 0 q.num hi2.at l1).mono ?_
  rintro e w3 ⟨v1, rfl, hn3, hf3, hg3⟩
  go_wp2_with fail
  refine (Denom_calls w3 bx q (hx.more (gb_trans gw (gb_trans hg2 hg3))) l2).mono ?_
  rintro e w4 ⟨bd, rfl, hi4, hb4, hg4⟩
  go_wp2_with fail
  refine (Give_calls w4 bd 0 q.den hi4.at l2).mono ?_
  rintro e w5 ⟨v2, rfl, hn5, hf5, hg5⟩
  rw [HD.out]
  have g5 := gb_trans hg4 hg5
  have G5 := gb_trans (gb_trans hg2 hg3) g5
  have hm5 := hn3.more g5
  obtain ⟨A1, m1, c1, rfl⟩ := hm5.ctor
  obtain ⟨A2, m2, c2, rfl⟩ := hn5.ctor
  obtain ⟨x0, x1, x2, x3, f0, f1, f2, f3⟩ := (hB.more G5).four
  have hs2 := hg2.size
  have hs3 := hg3.size
  have hs4 := hg4.size
  clear hi2 hi4 hb2 hb4 hn3
  go_wp2
  try simp only [Exit.inBlock, Exit.then]
  have hg6 : w5.grownBy ((((w5.setCell ⟨s, 0, none⟩ (.bool (decide (q.num < 0)))).setCell ⟨s, 1, none⟩ (.slice A1 m1 c1)).setCell ⟨s, 2, none⟩ (.bool false)).setCell ⟨s, 3, none⟩ (.slice A2 m2 c2)) (some s) := gb_trans (gb_trans (gb_trans (gb_set _ _ _ _) (gb_set _ _ _ _)) (gb_set _ _ _ _)) (gb_set _ _ _ _)
  refine bodyPost_ret (v := .agg #[.bool (decide (q.num < 0)), .slice A1 m1 c1, .bool false, .slice A2 m2 c2]) (by simp [results, Tryz.results130, go_sem, x0, x1, x2, x3]) rfl ⟨_, _, rfl, ?_, ?_, ?_, ?_, ?_⟩
  · exact hm5.apart hg6 (fun e => by have := hf3 _ e; omega)
  · exact hn5.apart hg6 (fun e => by have := hf5 _ e; omega)
  · exact hf3.mono (by omega)
  · exact hf5.mono (by omega)
  · exact gb_new (gb_trans gw G5) hg6 (by omega)

end Go.Proofs.YtmfmfpmkgmkgiaaGreatDoor

namespace Go.Proofs.YtmfmfpmkgmkgiaaGreatDoor
open Go.RowKit
open Rat
def IntOK (neg : Bool) (xs : List Nat) : Prop := xs.length ≤ 72 ∧ NoEnd xs ∧ (xs = [] → neg = false)
instance (neg : Bool) (xs : List Nat) : Decidable (IntOK neg xs) := by unfold IntOK NoEnd; infer_instance
theorem intOK_digs (z : Int) (h : lim z ≤ 72) : IntOK (decide (z < 0)) (digs z) :=
  ⟨h, digs_noEnd z, fun e => by rw [(digs_eq_nil z).1 e]; rfl⟩
theorem IntOK.digs {neg : Bool} {xs : List Nat} (h : IntOK neg xs) (hb : ∀ x ∈ xs, x < 4294967296) : digs (sg neg (val 4294967296 xs)) = xs ∧ decide (sg neg (val 4294967296 xs) < 0) = neg := by
  have e := dig_val 4294967296 (by omega) xs hb h.2.1
  refine ⟨by rw [digs_sg]; exact e, ?_⟩
  rw [sg_neg]
  by_cases h0 : xs = []
  · rw [h.2.2 h0]; rfl
  · have : val 4294967296 xs ≠ 0 := fun hz => h0 (by rw [← e, hz]; exact dig_zero _)
    simp [this]

theorem noEnd_last {xs : List Nat} (h : 0 < xs.length) : NoEnd xs ↔ xs[xs.length - 1]?.getD 0 ≠ 0 := by
  have hne : xs ≠ [] := by intro e; rw [e] at h; simp at h
  have : xs[xs.length - 1]?.getD 0 = xs.getLast hne := by
    rw [List.getLast_eq_getElem hne, List.getElem?_eq_getElem (by omega)]; rfl
  rw [this]
  exact ⟨fun hh => hh hne, fun hh _ => hh⟩

set_option maxRecDepth 100000 in
set_option maxHeartbeats 40000000 in
theorem LCheck_calls (w : World) (neg : Bool) (v : Value) (xs : List Nat) (hx : Nums w v xs) :
    Calls Tryz.prog 66 #[.agg #[.bool neg, v]] w fun e w' => e = .returned (.int .i64 (if IntOK neg xs then 0 else 10)) ∧ w.grownBy w' none := by
  have gw := fun v' => gb_alloc w (.cells #[.bool neg, v'] 49) none
  have hB := fun v' => Blk.new w #[.bool neg, v'] 49
  have bxs := hx.lt
  obtain ⟨A, c, rfl, h1, h2, hA⟩ := hx.read
  obtain ⟨b0, b1, _⟩ := (hB (.slice A xs.length c)).two
  have hgw := gw (.slice A xs.length c)
  by_cases h72 : 72 < xs.length
  · have hno : ¬ IntOK neg xs := fun h => by have := h.1; omega
    rw [if_neg hno]
    clear hx hA hno gw hB
    generalize xs.length = n at *
    go_enter Tryz.func66, Tryz.ntmps66
    go_wp2
    go_ret
    exact ⟨rfl, hgw⟩
  · by_cases h0 : xs.length = 0
    · obtain rfl := List.eq_nil_of_length_eq_zero h0
      have hr : (if IntOK neg [] then (0 : Int) else 10) = if neg then 10 else 0 := by cases neg <;> decide
      rw [hr]
      clear hr hx hA gw hB
      simp only [List.length_nil] at *
      cases neg
      · go_enter Tryz.func66, Tryz.ntmps66
        go_wp2
        go_ret
        exact ⟨rfl, hgw⟩
      · go_enter Tryz.func66, Tryz.ntmps66
        go_wp2
        go_ret
        exact ⟨rfl, hgw⟩
    · have hr : (if IntOK neg xs then (0 : Int) else 10) = if xs[xs.length - 1]?.getD 0 = 0 then 10 else 0 := by
        have hl := noEnd_last (xs := xs) (by omega)
        by_cases hz : xs[xs.length - 1]?.getD 0 = 0
        · rw [if_pos hz, if_neg (fun h => (hl.1 h.2.1) hz)]
        · rw [if_neg hz, if_pos ⟨by omega, hl.2 hz, fun e => absurd (by rw [e]; rfl) h0⟩]
      rw [hr]
      obtain ⟨b, o, rfl, hc⟩ := hA (by omega)
      have hcn := gb_cell (gb_alloc w (.cells #[.bool neg, .slice (some ⟨b, o, none⟩) xs.length c] 49) none) (hc (xs.length - 1) (by omega)) (by simp)
      clear hr hx hA gw hB hc
      have t0 : ((xs.length : Int) == 0) = false := by rw [beq_eq_false_iff_ne]; omega
      generalize xs[xs.length - 1]?.getD 0 = d at *
      generalize xs.length = n at *
      by_cases hz : d = 0
      · subst hz
        rw [if_pos rfl]
        go_enter Tryz.func66, Tryz.ntmps66
        go_wp2
        go_ret
        exact ⟨rfl, hgw⟩
      · rw [if_neg hz]
        have t : ((d : Int) == 0) = false := by simpa using hz
        go_enter Tryz.func66, Tryz.ntmps66
        go_wp2
        go_ret
        exact ⟨rfl, hgw⟩

set_option maxHeartbeats 40000000 in
theorem both_calls (w : World) (n1 n2 : Bool) (v1 v2 : Value) (xs ys : List Nat) (hx : Nums w v1 xs) (hy : Nums w v2 ys) :
    Calls Tryz.prog 75 #[.agg #[.bool n1, v1], .agg #[.bool n2, v2]] w fun e w' => e = .returned (.int .i64 (if IntOK n1 xs ∧ IntOK n2 ys then 0 else 10)) ∧ w.grownBy w' none := by
  obtain ⟨A1, m1, c1, rfl⟩ := hx.ctor
  obtain ⟨A2, m2, c2, rfl⟩ := hy.ctor
  have gw := gb_trans (gb_alloc w (.cells #[.bool n1, .slice A1 m1 c1] 49) none) (gb_alloc _ (.cells #[.bool n2, .slice A2 m2 c2] 49) none)
  have hB1 := (Blk.new w #[.bool n1, .slice A1 m1 c1] 49).more (gb_alloc _ (.cells #[.bool n2, .slice A2 m2 c2] 49) none)
  have hB2 := Blk.new (w.alloc (.cells #[.bool n1, .slice A1 m1 c1] 49)) #[.bool n2, .slice A2 m2 c2] 49
  rw [World.size_alloc] at hB2
  obtain ⟨b0, b1, _⟩ := hB1.two
  obtain ⟨d0, d1, _⟩ := hB2.two
  by_cases hk : IntOK n1 xs
  · have hc : (if IntOK n1 xs then (0 : Int) else 10) = 0 := if_pos hk
    have hr : (if IntOK n1 xs ∧ IntOK n2 ys then (0 : Int) else 10) = if IntOK n2 ys then 0 else 10 := by simp [hk]
    rw [hr]
    generalize hres : (if IntOK n2 ys then (0 : Int) else 10) = res
    have HR := Lib.hid hres
    clear hres hr
    go_enter Tryz.func75, Tryz.ntmps75
    go_wp2_with fail
    generalize (w.alloc (.cells #[.bool n1, .slice A1 m1 c1] 49)).alloc (.cells #[.bool n2, .slice A2 m2 c2] 49) = wa at *
    refine (LCheck_calls wa n1 _ xs (hx.more gw)).mono ?_
    rintro e w1 ⟨rfl, hg⟩
    rw [hc]
    have e0 := gb_cell hg d0 (by simp)
    have e1 := gb_cell hg d1 (by simp)
    go_wp2_with fail
    refine (LCheck_calls w1 n2 _ ys (hy.more (gb_trans gw hg))).mono ?_
    rintro e w2 ⟨rfl, hg2⟩
    rw [HR.out]
    go_wp2
    go_ret
    exact ⟨rfl, gb_trans gw (gb_trans hg hg2)⟩
  · have hc : (if IntOK n1 xs then (0 : Int) else 10) = 10 := if_neg hk
    have hr : (if IntOK n1 xs ∧ IntOK n2 ys then (0 : Int) else 10) = 10 := by simp [hk]
    rw [hr]
    clear hr
    go_enter Tryz.func75, Tryz.ntmps75
    go_wp2_with fail
    generalize (w.alloc (.cells #[.bool n1, .slice A1 m1 c1] 49)).alloc (.cells #[.bool n2, .slice A2 m2 c2] 49) = wa at *
    refine (LCheck_calls wa n1 _ xs (hx.more gw)).mono ?_
    rintro e w1 ⟨rfl, hg⟩
    rw [hc]
    go_wp2
    go_ret
    exact ⟨rfl, gb_trans gw hg⟩

set_option maxHeartbeats 40000000 in
theorem LOf_calls (w : World) (v : Int) (h1 : -9223372036854775808 ≤ v) (h2 : v ≤ 9223372036854775807) :
    Calls Tryz.prog 32 #[.int .i64 v] w fun e w' => ∃ s, e = .returned (.agg #[.bool (decide (v < 0)), s]) ∧ Nums w' s (digs v) ∧ From w.heap.size s ∧ w.grownBy w' none := by
  have gw := gb_alloc w (zint 49) none
  have hB := Blk.new w #[.bool false, .slice none 0 0] 49
  have l1 := lim_i64 h1 h2
  have hs1 : (w.alloc (zint 49)).heap.size = w.heap.size + 1 := by simp
  go_enter Tryz.func32, Tryz.ntmps32
  go_wp2_with fail
  generalize w.alloc (zint 49) = w1 at *
  generalize hs : w.heap.size = s at *
  refine (NewInt_calls w1 v h1 h2).mono ?_
  rintro e w2 ⟨bn, rfl, hi2, hb2, hg2⟩
  go_wp2_with fail
  refine (Give_calls w2 bn 0 v hi2.at (by omega)).mono ?_
  rintro e w3 ⟨v3, rfl, hn3, hf3, hg3⟩
  have g3 := gb_trans hg2 hg3
  have hs2 := hg2.size
  obtain ⟨c0, c1, f0, f1⟩ := (hB.more g3).two
  obtain ⟨A, n, c, rfl⟩ := hn3.ctor
  go_wp2
  try simp only [Exit.inBlock, Exit.then]
  have hg4 : w3.grownBy ((w3.setCell ⟨s, 0, none⟩ (.bool (decide (v < 0)))).setCell ⟨s, 1, none⟩ (.slice A n c)) (some s) := gb_trans (gb_set _ _ _ _) (gb_set _ _ _ _)
  refine bodyPost_ret (v := .agg #[.bool (decide (v < 0)), .slice A n c]) (by simp [results, Tryz.results32, go_sem, c0, c1]) rfl ⟨_, rfl, ?_, ?_, ?_⟩
  · exact hn3.apart hg4 (fun e => by have := hf3 _ e; omega)
  · exact hf3.mono (by omega)
  · exact gb_new (gb_trans gw g3) hg4 (by omega)

end Go.Proofs.YtmfmfpmkgmkgiaaGreatDoor

namespace Go.Proofs.YtmfmfpmkgmkgiaaGreatDoor
open Go.RowKit
open Rat

theorem IntB.new' {w0 : World} {n : Nat} (h : w0.heap.size = n) (T : TypeId) : IntB (w0.alloc (zint T)) n 0 := by subst h; exact IntB.new _ _
theorem Blk.seen {w : World} {b : Nat} {x y : Value} (h : Blk w b #[x, y]) : (w.cell? ⟨b, 0, none⟩ = some x ∧ w.cell? ⟨b, 1, none⟩ = some y ∧ w.frozen? ⟨b, 0, none⟩ = false ∧ w.frozen? ⟨b, 1, none⟩ = false) ∧
    (∀ o, (w.alloc o).cell? ⟨b, 0, none⟩ = some x) ∧ (∀ o, (w.alloc o).cell? ⟨b, 1, none⟩ = some y) ∧ (∀ o, (w.alloc o).frozen? ⟨b, 0, none⟩ = false) ∧ (∀ o, (w.alloc o).frozen? ⟨b, 1, none⟩ = false) :=
  ⟨h.two, fun o => (h.more (gb_alloc _ _ _)).cell 0, fun o => (h.more (gb_alloc _ _ _)).cell 1, fun o => (h.more (gb_alloc _ _ _)).free 0, fun o => (h.more (gb_alloc _ _ _)).free 1⟩
def ans (z : Int) : Int := if lim z ≤ 72 then z else 0
def ansE (z : Int) : Int := if lim z ≤ 72 then 0 else 13
theorem lim_ans (z : Int) : lim (ans z) ≤ 72 := by
  unfold ans; split
  · assumption
  · decide

set_option maxHeartbeats 40000000 in
theorem answer_calls (w : World) (bx ox : Nat) (x : Int) (hx : IntAt w bx ox x) (lx : lim x ≤ 1099511627776) :
    Calls Tryz.prog 87 #[.pointer (some ⟨bx, ox, none⟩)] w fun e w' => ∃ s, e = .returned (.tuple #[.agg #[.bool (decide (ans x < 0)), s], .int .i64 (ansE x)]) ∧ Nums w' s (digs (ans x)) ∧ From w.heap.size s ∧ w.grownBy w' none := by
  have gw := gb_alloc w (zint 49) none
  have hB := Blk.new w #[.bool false, .slice none 0 0] 49
  have hs1 : (w.alloc (zint 49)).heap.size = w.heap.size + 1 := by simp
  go_enter Tryz.func87, Tryz.ntmps87
  go_wp2_with fail
  generalize w.alloc (zint 49) = w1 at *
  generalize hs : w.heap.size = s at *
  refine (Give_calls w1 bx ox x (hx.more gw) lx).mono ?_
  rintro e w2 ⟨v2, rfl, hn2, hf2, hg2⟩
  have hB2 := hB.more hg2
  have hs2 := hg2.size
  obtain ⟨A, c, rfl, hA1, hA2⟩ := hn2.form
  have hgr : w2.grownBy (w2.alloc (.cells #[.bool (decide (x < 0)), .slice A (digs x).length c] 49)) none := gb_alloc _ _ _
  obtain ⟨c0, c1, f0, f1⟩ := (hB2.more hgr).two
  by_cases h72 : lim x ≤ 72
  · have ea : ans x = x := if_pos h72
    have ee : ansE x = 0 := if_pos h72
    have EA := Lib.hid ea
    have EE := Lib.hid ee
    have h72' : (digs x).length ≤ 72 := h72
    clear ea ee
    go_wp2
    try simp only [Exit.inBlock, Exit.then]
    have hg4 : w2.grownBy (((w2.alloc (.cells #[.bool (decide (x < 0)), .slice A (digs x).length c] 49)).setCell ⟨s, 0, none⟩ (.bool (decide (x < 0)))).setCell ⟨s, 1, none⟩ (.slice A (digs x).length c)) (some s) := gb_trans (gb_none hgr) (gb_trans (gb_set _ _ _ _) (gb_set _ _ _ _))
    refine bodyPost_ret (v := .tuple #[.agg #[.bool (decide (x < 0)), .slice A (digs x).length c], .int .i64 0]) (by simp [results, Tryz.results87, go_sem, c0, c1]) rfl ⟨.slice A (digs x).length c, by rw [EA.out, EE.out], ?_, ?_, ?_⟩
    · rw [EA.out]; exact hn2.apart hg4 (fun e => by have := hf2 _ e; omega)
    · exact hf2.mono (by omega)
    · exact gb_new (gb_trans gw hg2) hg4 (by omega)
  · have ea : ans x = 0 := if_neg h72
    have ee : ansE x = 13 := if_neg h72
    have EA := Lib.hid ea
    have EE := Lib.hid ee
    have h72' : 72 < (digs x).length := by have : lim x = (digs x).length := rfl; omega
    clear ea ee
    go_wp2
    try simp only [Exit.inBlock, Exit.then]
    have hg4 : w2.grownBy (((w2.alloc (.cells #[.bool (decide (x < 0)), .slice A (digs x).length c] 49)).setCell ⟨s, 0, none⟩ (.bool false)).setCell ⟨s, 1, none⟩ (.slice none 0 0)) (some s) := gb_trans (gb_none hgr) (gb_trans (gb_set _ _ _ _) (gb_set _ _ _ _))
    refine bodyPost_ret (v := .tuple #[.agg #[.bool false, .slice none 0 0], .int .i64 13]) (by simp [results, Tryz.results87, go_sem, c0, c1]) rfl ⟨.slice none 0 0, by rw [EA.out, EE.out]; rfl, ?_, ?_, ?_⟩
    · rw [EA.out]; exact Nums.nil _
    · intro b hb; simp [Value.ownBlock] at hb
    · exact gb_new (gb_trans gw hg2) hg4 (by omega)
def okI (n1 n2 : Bool) (xs ys : List Nat) : Prop := IntOK n1 xs ∧ IntOK n2 ys
instance (n1 n2 : Bool) (xs ys : List Nat) : Decidable (okI n1 n2 xs ys) := by unfold okI; infer_instance
def ans2 (n1 n2 : Bool) (xs ys : List Nat) (z : Int) : Int := if okI n1 n2 xs ys then ans z else 0
def ans2E (n1 n2 : Bool) (xs ys : List Nat) (z : Int) : Int := if okI n1 n2 xs ys then ansE z else 10

set_option maxRecDepth 100000 in
set_option maxHeartbeats 40000000 in
theorem LAdd_calls (w : World) (n1 n2 : Bool) (v1 v2 : Value) (xs ys : List Nat) (hx : Nums w v1 xs) (hy : Nums w v2 ys) :
    Calls Tryz.prog 38 #[.agg #[.bool n1, v1], .agg #[.bool n2, v2]] w fun e w' => ∃ s, e = .returned (.tuple #[.agg #[.bool (decide (ans2 n1 n2 xs ys (sg n1 (val 4294967296 xs) + sg n2 (val 4294967296 ys)) < 0)), s], .int .i64 (ans2E n1 n2 xs ys (sg n1 (val 4294967296 xs) + sg n2 (val 4294967296 ys)))]) ∧
      Nums w' s (digs (ans2 n1 n2 xs ys (sg n1 (val 4294967296 xs) + sg n2 (val 4294967296 ys)))) ∧ From w.heap.size s ∧ w.grownBy w' none := by
  obtain ⟨A1, m1, c1, rfl⟩ := hx.ctor
  obtain ⟨A2, m2, c2, rfl⟩ := hy.ctor
  have gw := gb_trans (gb_trans (gb_alloc w (.cells #[.bool n1, .slice A1 m1 c1] 49) none) (gb_alloc _ (.cells #[.bool n2, .slice A2 m2 c2] 49) none)) (gb_alloc _ (zint 49) none)
  have hB1 := (Blk.new w #[.bool n1, .slice A1 m1 c1] 49).more (gb_trans (gb_alloc _ (.cells #[.bool n2, .slice A2 m2 c2] 49) none) (gb_alloc _ (zint 49) none))
  have hB2 := (Blk.new (w.alloc (.cells #[.bool n1, .slice A1 m1 c1] 49)) #[.bool n2, .slice A2 m2 c2] 49).more (gb_alloc _ (zint 49) none)
  have hB3 := Blk.new ((w.alloc (.cells #[.bool n1, .slice A1 m1 c1] 49)).alloc (.cells #[.bool n2, .slice A2 m2 c2] 49)) #[.bool false, .slice none 0 0] 49
  have hsz : (((w.alloc (.cells #[.bool n1, .slice A1 m1 c1] 49)).alloc (.cells #[.bool n2, .slice A2 m2 c2] 49)).alloc (zint 49)).heap.size = w.heap.size + 3 := by simp
  rw [World.size_alloc] at hB2 hB3
  rw [World.size_alloc] at hB3
  by_cases hk : okI n1 n2 xs ys
  · have hc : (if IntOK n1 xs ∧ IntOK n2 ys then (0 : Int) else 10) = 0 := if_pos hk
    have ea : ∀ z, ans2 n1 n2 xs ys z = ans z := fun z => if_pos hk
    have ee : ∀ z, ans2E n1 n2 xs ys z = ansE z := fun z => if_pos hk
    have l1 : lim (sg n1 (val 4294967296 xs)) ≤ 72 := Nat.le_trans (lim_sg hx.2) hk.1.1
    have l2 : lim (sg n2 (val 4294967296 ys)) ≤ 72 := Nat.le_trans (lim_sg hy.2) hk.2.1
    have l3 : lim (sg n1 (val 4294967296 xs) + sg n2 (val 4294967296 ys)) ≤ 73 := lim_add l1 l2
    have lx := hk.1.1
    have ly := hk.2.1
    rw [ea, ee]
    clear hk ea ee
    go_enter Tryz.func38, Tryz.ntmps38
    go_wp2_with fail
    generalize ((w.alloc (.cells #[.bool n1, .slice A1 m1 c1] 49)).alloc (.cells #[.bool n2, .slice A2 m2 c2] 49)).alloc (zint 49) = wa at *
    generalize hs : w.heap.size = s at *
    refine (both_calls wa n1 n2 _ _ xs ys (hx.more gw) (hy.more gw)).mono ?_
    rintro e w1 ⟨rfl, hg⟩
    rw [hc]
    have g1 := gb_trans gw hg
    have hx1 := hx.more g1
    have hy1 := hy.more g1
    have hs1 := hg.size
    have B1 := hB1.more hg
    have B2 := hB2.more hg
    have B3 := hB3.more hg
    have k1 := Lib.hid B1
    have k2 := Lib.hid B2
    have k3 := Lib.hid B3
    have K : ∀ w', w1.grownBy w' none → w'.cell? ⟨s, 0, none⟩ = some (.bool n1) ∧ w'.cell? ⟨s, 1, none⟩ = some (.slice A1 m1 c1) ∧ w'.cell? ⟨s + 1, 0, none⟩ = some (.bool n2) ∧ w'.cell? ⟨s + 1, 1, none⟩ = some (.slice A2 m2 c2) := fun w' h => ⟨(B1.more h).cell 0, (B1.more h).cell 1, (B2.more h).cell 0, (B2.more h).cell 1⟩
    obtain ⟨_, _, _, _⟩ := K w1 (gb_refl _ _)
    have HK := Lib.hid K
    have ne1 : s + 1 + 1 ≠ s := by omega
    have ne2 : s ≠ s + 1 + 1 := by omega
    clear B1 B2 B3 hB1 hB2 hB3 gw K
    go_wp2_with fail
    go_region_held3 (fun w' => w'.cell? ⟨s, 0, none⟩ = some (.bool n1) ∧ w'.cell? ⟨s, 1, none⟩ = some (.slice A1 m1 c1) ∧ w'.cell? ⟨s + 1, 0, none⟩ = some (.bool n2) ∧ w'.cell? ⟨s + 1, 1, none⟩ = some (.slice A2 m2 c2)) (first | go_keep | exact HK.out _ (by (focus ((repeat (first | assumption | exact gb_refl _ _ | exact gb_drew _ _ | exact gb_alloc _ _ _ | refine gb_trans ?_ (gb_alloc _ _ _) | refine gb_trans ?_ (gb_drew _ _) | refine gb_trans ?_ (by assumption))); done))))
     (first
     | (go_at_call_of 58 (Value.agg #[.bool n1, .slice A1 m1 c1]); refine (Take_calls _ n1 _ xs (hx1.more (by (focus ((repeat (first | assumption | exact gb_refl _ _ | exact gb_drew _ _ | exact gb_alloc _ _ _ | refine gb_trans ?_ (gb_alloc _ _ _) | refine gb_trans ?_ (gb_drew _ _) | refine gb_trans ?_ (by assumption))); done)))) (by omega)).mono ?_; rintro e w2 ⟨bb2, rfl, hi2, hb2, hg2⟩)
     | (go_at_call 58; refine (Take_calls _ n2 _ ys (hy1.more (by (focus ((repeat (first | assumption | exact gb_refl _ _ | exact gb_drew _ _ | exact gb_alloc _ _ _ | refine gb_trans ?_ (gb_alloc _ _ _) | refine gb_trans ?_ (gb_drew _ _) | refine gb_trans ?_ (by assumption))); done)))) (by omega)).mono ?_; rintro e w3 ⟨bb3, rfl, hi3, hb3, hg3⟩)
     | (go_at_call 59; refine (Add_calls _ _ bb2 0 bb3 0 0 _ _ (by first | exact (IntB.new' (w0 := w1.drew) rfl _).more (by (focus ((repeat (first | assumption | exact gb_refl _ _ | exact gb_drew _ _ | exact gb_alloc _ _ _ | refine gb_trans ?_ (gb_alloc _ _ _) | refine gb_trans ?_ (gb_drew _ _) | refine gb_trans ?_ (by assumption))); done))) | exact (IntB.new' (w0 := w2) rfl _).more (by (focus ((repeat (first | assumption | exact gb_refl _ _ | exact gb_drew _ _ | exact gb_alloc _ _ _ | refine gb_trans ?_ (gb_alloc _ _ _) | refine gb_trans ?_ (gb_drew _ _) | refine gb_trans ?_ (by assumption))); done))) | exact (IntB.new' (w0 := w3) rfl _).more (by (focus ((repeat (first | assumption | exact gb_refl _ _ | exact gb_drew _ _ | exact gb_alloc _ _ _ | refine gb_trans ?_ (gb_alloc _ _ _) | refine gb_trans ?_ (gb_drew _ _) | refine gb_trans ?_ (by assumption))); done)))) (hi2.at.more (by (focus ((repeat (first | assumption | exact gb_refl _ _ | exact gb_drew _ _ | exact gb_alloc _ _ _ | refine gb_trans ?_ (gb_alloc _ _ _) | refine gb_trans ?_ (gb_drew _ _) | refine gb_trans ?_ (by assumption))); done)))) (hi3.at.more (by (focus ((repeat (first | assumption | exact gb_refl _ _ | exact gb_drew _ _ | exact gb_alloc _ _ _ | refine gb_trans ?_ (gb_alloc _ _ _) | refine gb_trans ?_ (gb_drew _ _) | refine gb_trans ?_ (by assumption))); done)))) (by omega) (by omega)).mono ?_; rintro e w4 ⟨rfl, hi4, hg4⟩; have g4 := gb_new (show w1.grownBy _ none by (focus ((repeat (first | assumption | exact gb_refl _ _ | exact gb_drew _ _ | exact gb_alloc _ _ _ | refine gb_trans ?_ (gb_alloc _ _ _) | refine gb_trans ?_ (gb_drew _ _) | refine gb_trans ?_ (by assumption))); done))) hg4 (by first | exact Nat.le_refl _ | exact (show w1.grownBy w2 none by (focus ((repeat (first | assumption | exact gb_refl _ _ | exact gb_drew _ _ | exact gb_alloc _ _ _ | refine gb_trans ?_ (gb_alloc _ _ _) | refine gb_trans ?_ (gb_drew _ _) | refine gb_trans ?_ (by assumption))); done))).size | exact (show w1.grownBy w3 none by (focus ((repeat (first | assumption | exact gb_refl _ _ | exact gb_drew _ _ | exact gb_alloc _ _ _ | refine gb_trans ?_ (gb_alloc _ _ _) | refine gb_trans ?_ (gb_drew _ _) | refine gb_trans ?_ (by assumption))); done))).size))
     | (go_at_call 87; refine (answer_calls _ _ 0 _ hi4.at (by omega)).mono ?_; rintro e w5 ⟨sl, rfl, hn5, hf5, hg5⟩; obtain ⟨A5, m5, c5, rfl⟩ := hn5.ctor; obtain ⟨_, _, _, _⟩ := (k3.out.more (gb_trans g4 hg5)).two))
    all_goals
      go_wp2
      try simp only [Exit.inBlock, Exit.then]
      have hg6 : w5.grownBy ((w5.setCell ⟨s + 1 + 1, 0, none⟩ (.bool (decide (ans (sg n1 (val 4294967296 xs) + sg n2 (val 4294967296 ys)) < 0)))).setCell ⟨s + 1 + 1, 1, none⟩ (.slice A5 m5 c5)) (some (s + 1 + 1)) := gb_trans (gb_set _ _ _ _) (gb_set _ _ _ _)
      have hs4 := g4.size
      refine bodyPost_ret (v := .tuple #[.agg #[.bool (decide (ans (sg n1 (val 4294967296 xs) + sg n2 (val 4294967296 ys)) < 0)), .slice A5 m5 c5], .int .i64 (ansE (sg n1 (val 4294967296 xs) + sg n2 (val 4294967296 ys)))]) (by simp [results, Tryz.results38, go_sem, *]) rfl ⟨_, rfl, ?_, ?_, ?_⟩
      · exact hn5.apart hg6 (fun e => by have := hf5 _ e; omega)
      · exact hf5.mono (by omega)
      · exact gb_new (gb_trans g1 (gb_trans g4 hg5)) hg6 (by omega)
  · have hc : (if IntOK n1 xs ∧ IntOK n2 ys then (0 : Int) else 10) = 10 := if_neg hk
    have ea : ∀ z, ans2 n1 n2 xs ys z = 0 := fun z => if_neg hk
    have ee : ∀ z, ans2E n1 n2 xs ys z = 10 := fun z => if_neg hk
    rw [ea, ee]
    clear hk ea ee
    go_enter Tryz.func38, Tryz.ntmps38
    go_wp2_with fail
    generalize ((w.alloc (.cells #[.bool n1, .slice A1 m1 c1] 49)).alloc (.cells #[.bool n2, .slice A2 m2 c2] 49)).alloc (zint 49) = wa at *
    generalize hs : w.heap.size = s at *
    refine (both_calls wa n1 n2 _ _ xs ys (hx.more gw) (hy.more gw)).mono ?_
    rintro e w1 ⟨rfl, hg⟩
    rw [hc]
    obtain ⟨d0, d1, f0, f1⟩ := (hB3.more hg).two
    go_wp2
    try simp only [Exit.inBlock, Exit.then]
    have hg6 : w1.grownBy ((w1.setCell ⟨s + 1 + 1, 0, none⟩ (.bool false)).setCell ⟨s + 1 + 1, 1, none⟩ (.slice none 0 0)) (some (s + 1 + 1)) := gb_trans (gb_set _ _ _ _) (gb_set _ _ _ _)
    refine bodyPost_ret (v := .tuple #[.agg #[.bool false, .slice none 0 0], .int .i64 10]) (by simp [results, Tryz.results38, go_sem, d0, d1]) rfl ⟨.slice none 0 0, rfl, Nums.nil _, ?_, ?_⟩
    · intro b hb; simp [Value.ownBlock] at hb
    · exact gb_new (gb_trans gw hg) hg6 (by omega)

end Go.Proofs.YtmfmfpmkgmkgiaaGreatDoor

namespace Go.Proofs.YtmfmfpmkgmkgiaaGreatDoor
open Go.RowKit
open Rat

set_option maxRecDepth 100000 in
set_option maxHeartbeats 40000000 in
theorem LGcd_calls (w : World) (n1 n2 : Bool) (v1 v2 : Value) (xs ys : List Nat) (hx : Nums w v1 xs) (hy : Nums w v2 ys) :
    Calls Tryz.prog 30 #[.agg #[.bool n1, v1], .agg #[.bool n2, v2]] w fun e w' => ∃ s, e = .returned (.tuple #[.agg #[.bool false, s], .int .i64 (if okI n1 n2 xs ys then 0 else 10)]) ∧
      Nums w' s (digs (if okI n1 n2 xs ys then (Nat.gcd (val 4294967296 xs) (val 4294967296 ys) : Int) else 0)) ∧ From w.heap.size s ∧ w.grownBy w' none := by
  obtain ⟨A1, m1, c1, rfl⟩ := hx.ctor
  obtain ⟨A2, m2, c2, rfl⟩ := hy.ctor
  have gw := gb_trans (gb_trans (gb_alloc w (.cells #[.bool n1, .slice A1 m1 c1] 49) none) (gb_alloc _ (.cells #[.bool n2, .slice A2 m2 c2] 49) none)) (gb_alloc _ (zint 49) none)
  have hB1 := (Blk.new w #[.bool n1, .slice A1 m1 c1] 49).more (gb_trans (gb_alloc _ (.cells #[.bool n2, .slice A2 m2 c2] 49) none) (gb_alloc _ (zint 49) none))
  have hB2 := (Blk.new (w.alloc (.cells #[.bool n1, .slice A1 m1 c1] 49)) #[.bool n2, .slice A2 m2 c2] 49).more (gb_alloc _ (zint 49) none)
  have hB3 := Blk.new ((w.alloc (.cells #[.bool n1, .slice A1 m1 c1] 49)).alloc (.cells #[.bool n2, .slice A2 m2 c2] 49)) #[.bool false, .slice none 0 0] 49
  have hsz : (((w.alloc (.cells #[.bool n1, .slice A1 m1 c1] 49)).alloc (.cells #[.bool n2, .slice A2 m2 c2] 49)).alloc (zint 49)).heap.size = w.heap.size + 3 := by simp
  rw [World.size_alloc] at hB2 hB3
  rw [World.size_alloc] at hB3
  by_cases hk : okI n1 n2 xs ys
  · have hc : (if IntOK n1 xs ∧ IntOK n2 ys then (0 : Int) else 10) = 0 := if_pos hk
    have eg : (Nat.gcd (sg n1 (val 4294967296 xs)).natAbs (sg n2 (val 4294967296 ys)).natAbs : Int) = (Nat.gcd (val 4294967296 xs) (val 4294967296 ys) : Int) := by rw [sg_natAbs, sg_natAbs]
    have lg : lim (Nat.gcd (val 4294967296 xs) (val 4294967296 ys) : Int) ≤ 72 + 72 := by
      refine (lim_le _ _).2 ?_
      have hxb := (lim_le _ _).1 (lim_sg (neg := n1) hx.2)
      have hyb := (lim_le _ _).1 (lim_sg (neg := n1) hy.2)
      rw [sg_natAbs] at hxb hyb
      have k1 := hk.1.1
      have k2 := hk.2.1
      have p1 : val 4294967296 xs < 4294967296 ^ (72 + 72) := Nat.lt_of_lt_of_le hxb (Nat.pow_le_pow_right (by omega) (by omega))
      have p2 : val 4294967296 ys < 4294967296 ^ (72 + 72) := Nat.lt_of_lt_of_le hyb (Nat.pow_le_pow_right (by omega) (by omega))
      have p3 := Nat.gcd_le_left (m := val 4294967296 xs) (val 4294967296 ys)
      simp only [Int.natAbs_natCast]
      by_cases hz : val 4294967296 xs = 0
      · rw [hz, Nat.gcd_zero_left]; exact p2
      · exact Nat.lt_of_le_of_lt (p3 (by omega)) p1
    have EG := Lib.hid eg
    have hng : decide ((Nat.gcd (val 4294967296 xs) (val 4294967296 ys) : Int) < 0) = false := decide_eq_false (by omega)
    have HNG := Lib.hid hng
    have l1 : lim (sg n1 (val 4294967296 xs)) ≤ 72 := Nat.le_trans (lim_sg hx.2) hk.1.1
    have l2 : lim (sg n2 (val 4294967296 ys)) ≤ 72 := Nat.le_trans (lim_sg hy.2) hk.2.1
    have lx := hk.1.1
    have ly := hk.2.1
    rw [if_pos hk, if_pos hk]
    clear hk eg hng
    go_enter Tryz.func30, Tryz.ntmps30
    go_wp2_with fail
    generalize ((w.alloc (.cells #[.bool n1, .slice A1 m1 c1] 49)).alloc (.cells #[.bool n2, .slice A2 m2 c2] 49)).alloc (zint 49) = wa at *
    generalize hs : w.heap.size = s at *
    refine (both_calls wa n1 n2 _ _ xs ys (hx.more gw) (hy.more gw)).mono ?_
    rintro e w1 ⟨rfl, hg⟩
    rw [hc]
    have g1 := gb_trans gw hg
    have hx1 := hx.more g1
    have hy1 := hy.more g1
    have hs1 := hg.size
    have B1 := hB1.more hg
    have B2 := hB2.more hg
    have B3 := hB3.more hg
    have k1 := Lib.hid B1
    have k2 := Lib.hid B2
    have k3 := Lib.hid B3
    have K : ∀ w', w1.grownBy w' none → w'.cell? ⟨s, 0, none⟩ = some (.bool n1) ∧ w'.cell? ⟨s, 1, none⟩ = some (.slice A1 m1 c1) ∧ w'.cell? ⟨s + 1, 0, none⟩ = some (.bool n2) ∧ w'.cell? ⟨s + 1, 1, none⟩ = some (.slice A2 m2 c2) := fun w' h => ⟨(B1.more h).cell 0, (B1.more h).cell 1, (B2.more h).cell 0, (B2.more h).cell 1⟩
    obtain ⟨_, _, _, _⟩ := K w1 (gb_refl _ _)
    have HK := Lib.hid K
    have ne1 : s + 1 + 1 ≠ s := by omega
    have ne2 : s ≠ s + 1 + 1 := by omega
    clear B1 B2 B3 hB1 hB2 hB3 gw K
    go_wp2_with fail
    go_region_held3 (fun w' => w'.cell? ⟨s, 0, none⟩ = some (.bool n1) ∧ w'.cell? ⟨s, 1, none⟩ = some (.slice A1 m1 c1) ∧ w'.cell? ⟨s + 1, 0, none⟩ = some (.bool n2) ∧ w'.cell? ⟨s + 1, 1, none⟩ = some (.slice A2 m2 c2)) (first | go_keep | exact HK.out _ (by (focus ((repeat (first | assumption | exact gb_refl _ _ | exact gb_drew _ _ | exact gb_alloc _ _ _ | refine gb_trans ?_ (gb_alloc _ _ _) | refine gb_trans ?_ (gb_drew _ _) | refine gb_trans ?_ (by assumption))); done))))
     (first
     | (go_at_call_of 58 (Value.agg #[.bool n1, .slice A1 m1 c1]); refine (Take_calls _ n1 _ xs (hx1.more (by (focus ((repeat (first | assumption | exact gb_refl _ _ | exact gb_drew _ _ | exact gb_alloc _ _ _ | refine gb_trans ?_ (gb_alloc _ _ _) | refine gb_trans ?_ (gb_drew _ _) | refine gb_trans ?_ (by assumption))); done)))) (by omega)).mono ?_; rintro e w2 ⟨bb2, rfl, hi2, hb2, hg2⟩)
     | (go_at_call 58; refine (Take_calls _ n2 _ ys (hy1.more (by (focus ((repeat (first | assumption | exact gb_refl _ _ | exact gb_drew _ _ | exact gb_alloc _ _ _ | refine gb_trans ?_ (gb_alloc _ _ _) | refine gb_trans ?_ (gb_drew _ _) | refine gb_trans ?_ (by assumption))); done)))) (by omega)).mono ?_; rintro e w3 ⟨bb3, rfl, hi3, hb3, hg3⟩)
     | (go_at_call 76; refine (Gcd_calls _ bb2 0 bb3 0 _ _ (hi2.at.more (by (focus ((repeat (first | assumption | exact gb_refl _ _ | exact gb_drew _ _ | exact gb_alloc _ _ _ | refine gb_trans ?_ (gb_alloc _ _ _) | refine gb_trans ?_ (gb_drew _ _) | refine gb_trans ?_ (by assumption))); done)))) (hi3.at.more (by (focus ((repeat (first | assumption | exact gb_refl _ _ | exact gb_drew _ _ | exact gb_alloc _ _ _ | refine gb_trans ?_ (gb_alloc _ _ _) | refine gb_trans ?_ (gb_drew _ _) | refine gb_trans ?_ (by assumption))); done)))) (by omega) (by omega)).mono ?_; rintro e w4 ⟨bb4, rfl, hi4, hb4, hg4⟩; rw [EG.out] at hi4)
     | (go_at_call 63; refine (Give_calls w4 bb4 0 _ hi4.at (by omega)).mono ?_; rintro e w5 ⟨sl, rfl, hn5, hf5, hg5⟩; have g4 : w1.grownBy w4 none := (by (focus ((repeat (first | assumption | exact gb_refl _ _ | exact gb_drew _ _ | exact gb_alloc _ _ _ | refine gb_trans ?_ (gb_alloc _ _ _) | refine gb_trans ?_ (gb_drew _ _) | refine gb_trans ?_ (by assumption))); done))); obtain ⟨A5, m5, c5, rfl⟩ := hn5.ctor; rw [HNG.out]; obtain ⟨_, _, _, _⟩ := (k3.out.more (gb_trans g4 hg5)).two))
    all_goals
      go_wp2
      try simp only [Exit.inBlock, Exit.then]
      have hg6 : w5.grownBy ((w5.setCell ⟨s + 1 + 1, 0, none⟩ (.bool false)).setCell ⟨s + 1 + 1, 1, none⟩ (.slice A5 m5 c5)) (some (s + 1 + 1)) := gb_trans (gb_set _ _ _ _) (gb_set _ _ _ _)
      have hs4 := g4.size
      refine bodyPost_ret (v := .tuple #[.agg #[.bool false, .slice A5 m5 c5], .int .i64 0]) (by simp [results, Tryz.results30, go_sem, *]) rfl ⟨_, rfl, ?_, ?_, ?_⟩
      · exact hn5.apart hg6 (fun e => by have := hf5 _ e; omega)
      · exact hf5.mono (by omega)
      · exact gb_new (gb_trans g1 (gb_trans g4 hg5)) hg6 (by omega)
  · have hc : (if IntOK n1 xs ∧ IntOK n2 ys then (0 : Int) else 10) = 10 := if_neg hk
    rw [if_neg hk, if_neg hk]
    clear hk
    go_enter Tryz.func30, Tryz.ntmps30
    go_wp2_with fail
    generalize ((w.alloc (.cells #[.bool n1, .slice A1 m1 c1] 49)).alloc (.cells #[.bool n2, .slice A2 m2 c2] 49)).alloc (zint 49) = wa at *
    generalize hs : w.heap.size = s at *
    refine (both_calls wa n1 n2 _ _ xs ys (hx.more gw) (hy.more gw)).mono ?_
    rintro e w1 ⟨rfl, hg⟩
    rw [hc]
    obtain ⟨d0, d1, f0, f1⟩ := (hB3.more hg).two
    go_wp2
    try simp only [Exit.inBlock, Exit.then]
    have hg6 : w1.grownBy ((w1.setCell ⟨s + 1 + 1, 0, none⟩ (.bool false)).setCell ⟨s + 1 + 1, 1, none⟩ (.slice none 0 0)) (some (s + 1 + 1)) := gb_trans (gb_set _ _ _ _) (gb_set _ _ _ _)
    refine bodyPost_ret (v := .tuple #[.agg #[.bool false, .slice none 0 0], .int .i64 10]) (by simp [results, Tryz.results30, go_sem, d0, d1]) rfl ⟨.slice none 0 0, rfl, Nums.nil _, ?_, ?_⟩
    · intro b hb; simp [Value.ownBlock] at hb
    · exact gb_new (gb_trans gw hg) hg6 (by omega)

end Go.Proofs.YtmfmfpmkgmkgiaaGreatDoor

namespace Go.Proofs.YtmfmfpmkgmkgiaaGreatDoor
open Go.RowKit
open Rat

def OnG (z : Int) : Prop := -1000000000000000000 ≤ z ∧ z ≤ 1000000000000000000
instance (z : Int) : Decidable (OnG z) := by unfold OnG; infer_instance

set_option maxHeartbeats 40000000 in
theorem Grid_calls (w : World) (bx ox : Nat) (x : Int) (hx : IntAt w bx ox x) :
    Calls Tryz.prog 186 #[.pointer (some ⟨bx, ox, none⟩)] w fun e w' => e = .returned (.tuple #[.int .i64 (if OnG x then x else 0), .int .i64 (if OnG x then 0 else 4)]) ∧ w = w' := by
  by_cases hg : OnG x
  · have h1 : -9223372036854775808 ≤ x := by have := hg.1; omega
    have h2 : x ≤ 9223372036854775807 := by have := hg.2; omega
    have hd : decide (-9223372036854775808 ≤ x ∧ x ≤ 9223372036854775807) = true := decide_eq_true ⟨h1, h2⟩
    have g1 := hg.1
    have g2 := hg.2
    have HD := Lib.hid hd
    rw [if_pos hg, if_pos hg]
    clear hg hd
    go_enter Tryz.func186, Tryz.ntmps186
    go_wp2_with fail
    refine (Int64_calls w bx ox x hx).mono ?_
    rintro e w1 ⟨⟨v, rfl, hv, _, _⟩, rfl⟩
    obtain rfl := hv h1 h2
    rw [HD.out]
    go_wp2
    go_ret2
    exact ⟨rfl, rfl⟩
  · rw [if_neg hg, if_neg hg]
    by_cases hi : -9223372036854775808 ≤ x ∧ x ≤ 9223372036854775807
    · have HD := Lib.hid (decide_eq_true hi)
      have HI := Lib.hid hi
      by_cases hb : 1000000000000000000 < x
      · clear hg hi
        go_enter Tryz.func186, Tryz.ntmps186
        go_wp2_with fail
        refine (Int64_calls w bx ox x hx).mono ?_
        rintro e w1 ⟨⟨v, rfl, hv, _, _⟩, rfl⟩
        obtain rfl := hv HI.out.1 HI.out.2
        rw [HD.out]
        go_wp2
        go_ret2
        exact ⟨rfl, rfl⟩
      · have hb2 : x < -1000000000000000000 := by unfold OnG at hg; omega
        clear hg hi
        go_enter Tryz.func186, Tryz.ntmps186
        go_wp2_with fail
        refine (Int64_calls w bx ox x hx).mono ?_
        rintro e w1 ⟨⟨v, rfl, hv, _, _⟩, rfl⟩
        obtain rfl := hv HI.out.1 HI.out.2
        rw [HD.out]
        go_wp2
        go_ret2
        exact ⟨rfl, rfl⟩
    · have HD := Lib.hid (decide_eq_false hi)
      clear hg hi
      go_enter Tryz.func186, Tryz.ntmps186
      go_wp2_with fail
      refine (Int64_calls w bx ox x hx).mono ?_
      rintro e w1 ⟨⟨v, rfl, hv, _, _⟩, rfl⟩
      rw [HD.out]
      go_wp2
      go_ret2
      exact ⟨rfl, rfl⟩

theorem sign_small (n : Int) : -1 ≤ n.sign ∧ n.sign ≤ 1 := by
  rcases Int.lt_trichotomy n 0 with h | h | h
  · rw [Int.sign_eq_neg_one_of_neg h]; omega
  · rw [h, Int.sign_zero]; omega
  · rw [Int.sign_eq_one_of_pos h]; omega
def nearI (n d : Int) : Int :=
  if d < 2 * ((n.tmod d).natAbs : Int) ∨ (2 * ((n.tmod d).natAbs : Int) = d ∧ (n.tdiv d).natAbs % 2 = 1) then n.tdiv d + n.sign else n.tdiv d

set_option maxRecDepth 100000 in
set_option maxHeartbeats 40000000 in
theorem Near_calls (w : World) (bn on bd od : Nat) (n d : Int) (hn : IntAt w bn on n) (hd : IntAt w bd od d) (ln : lim n ≤ 549755813888) (hd0 : 0 < d) :
    Calls Tryz.prog 187 #[.pointer (some ⟨bn, on, none⟩), .pointer (some ⟨bd, od, none⟩)] w fun e w' => ∃ b, e = .returned (.pointer (some ⟨b, 0, none⟩)) ∧ IntB w' b (nearI n d) ∧ w.heap.size ≤ b ∧ w.grownBy w' none := by
  have hN := new2 w 141
  have nlt := hn.lt
  have dlt := hd.lt
  have hd0' : d ≠ 0 := by omega
  have lr : lim ((n.tmod d).natAbs : Int) ≤ lim n := lim_natAbs (by rw [Int.natAbs_natCast, Int.natAbs_tmod]; exact Nat.mod_le _ _)
  have lr' : lim (n.tmod d) ≤ lim n := lim_natAbs (by rw [Int.natAbs_tmod]; exact Nat.mod_le _ _)
  have lq' : lim (n.tdiv d) ≤ lim n := lim_natAbs (natAbs_tdiv_le _ _)
  have ln2 : nearI n d = if d < 2 * ((n.tmod d).natAbs : Int) ∨ (2 * ((n.tmod d).natAbs : Int) = d ∧ (n.tdiv d).natAbs % 2 = 1) then n.tdiv d + n.sign else n.tdiv d := rfl
  have LN := Lib.hid ln2
  clear ln2
  go_enter Tryz.func187, Tryz.ntmps187
  go_wp2_with fail
  generalize ((w.alloc (zint 141)).alloc (zint 141)) = w1 at *
  obtain ⟨ha, hb, g1⟩ := hN
  generalize hs : w.heap.size = s at *
  refine (QuoRem_calls w1 s bn on bd od (s + 1) 0 n d 0 ha (hn.more g1) (hd.more g1) hb (by omega) (by omega) hd0').mono ?_
  rintro e w2 ⟨rfl, hq2, hr2, wm, hgm, hg2⟩
  have g2 := gb_new (gb_new g1 hgm (by omega)) hg2 (by omega)
  have hs2 : s + 1 < w2.heap.size := hr2.lt
  have g2a := gb_alloc w2 (zint 141) none
  have hc := IntB.new w2 141
  have hsa : (w2.alloc (zint 141)).heap.size = w2.heap.size + 1 := by simp
  clear hgm hg2 ha hb g1
  go_wp2_with fail
  generalize hwa : w2.alloc (zint 141) = wa at *
  generalize hm : w2.heap.size = m at *
  refine (Abs_calls wa m (s + 1) 0 0 (n.tmod d) hc (hr2.more g2a).at).mono ?_
  rintro e w3 ⟨rfl, hi3, hg3⟩
  have q3 := (hq2.more g2a).other hg3 hc.plain (by omega)
  have g3 := gb_new g2 (gb_trans (gb_none g2a) hg3) (by omega)
  clear hq2 hr2 hc g2a
  go_wp2_with fail
  refine (Add_calls w3 m m 0 m 0 _ _ _ hi3 hi3.at hi3.at (by omega) (by omega)).mono ?_
  rintro e w4 ⟨rfl, hi4, hg4⟩
  have q4 := q3.other hg4 hi3.plain (by omega)
  have g4 := gb_new g3 hg4 (by omega)
  go_wp2_with fail
  refine (Cmp_calls w4 m 0 bd od _ d hi4.at (hd.more g4)).mono ?_
  rintro e w5 ⟨rfl, nq, hw5⟩
  have g5 : w.grownBy w5 none := by rw [hw5]; exact gb_trans g4 (gb_drewN _ _ _)
  have q5 : IntB w5 s (n.tdiv d) := by rw [hw5]; exact q4.more (gb_drewN _ _ _)
  have S1 : -9223372036854775808 ≤ n.sign := by have := sign_small n; omega
  have S2 : n.sign ≤ 9223372036854775807 := by have := sign_small n; omega
  have LS : lim n.sign ≤ 1099511627776 := by have := lim_i64 S1 S2; omega
  clear hw5 g4 hg4 hi4 q4 hi3 hg3 q3 g3 g2
  generalize hR : ((n.tmod d).natAbs : Int) = R at *
  have hcase : d < R + R ∨ R + R = d ∨ R + R < d := by omega
  rcases hcase with h | h | h
  · have HC : Hid (d < 2 * R ∨ (2 * R = d ∧ (n.tdiv d).natAbs % 2 = 1)) := Lib.hid (.inl (by omega))
    rw [Int.sign_eq_one_of_pos (by omega)]
    clear h
    go_wp2_with fail
    refine (Sign_calls w5 bn on n (hn.more g5)).mono ?_
    rintro e w6 ⟨rfl, rfl⟩
    go_wp2_with fail
    refine (NewInt_calls w5 n.sign S1 S2).mono ?_
    rintro e w7 ⟨bs, rfl, hi7, hb7, hg7⟩
    have q7 := q5.more hg7
    go_wp2_with fail
    refine (Add_calls w7 s s 0 bs 0 (n.tdiv d) (n.tdiv d) n.sign q7 q7.at hi7.at (by omega) LS).mono ?_
    rintro e w8 ⟨rfl, hi8, hg8⟩
    go_wp2
    go_ret
    rw [LN.out, if_pos HC.out]
    exact ⟨s, rfl, hi8, by omega, gb_new (gb_trans g5 hg7) hg8 (by omega)⟩
  · rw [h, Int.sub_self, Int.sign_zero]
    by_cases ho : (n.tdiv d).natAbs % 2 = 1
    · have HC : Hid (d < 2 * R ∨ (2 * R = d ∧ (n.tdiv d).natAbs % 2 = 1)) := Lib.hid (.inr ⟨by omega, ho⟩)
      have HO := Lib.hid (decide_eq_true ho)
      clear h ho
      go_wp2_with fail
      refine (Odd_calls w5 s 0 (n.tdiv d) q5.at).mono ?_
      rintro e w6 ⟨rfl, rfl⟩
      rw [HO.out]
      go_wp2_with fail
      refine (Sign_calls w5 bn on n (hn.more g5)).mono ?_
      rintro e w6 ⟨rfl, rfl⟩
      go_wp2_with fail
      refine (NewInt_calls w5 n.sign S1 S2).mono ?_
      rintro e w7 ⟨bs, rfl, hi7, hb7, hg7⟩
      have q7 := q5.more hg7
      go_wp2_with fail
      refine (Add_calls w7 s s 0 bs 0 (n.tdiv d) (n.tdiv d) n.sign q7 q7.at hi7.at (by omega) LS).mono ?_
      rintro e w8 ⟨rfl, hi8, hg8⟩
      go_wp2
      go_ret
      rw [LN.out, if_pos HC.out]
      exact ⟨s, rfl, hi8, by omega, gb_new (gb_trans g5 hg7) hg8 (by omega)⟩
    · have HC : Hid (¬ (d < 2 * R ∨ (2 * R = d ∧ (n.tdiv d).natAbs % 2 = 1))) := Lib.hid (by omega)
      have HO := Lib.hid (decide_eq_false ho)
      clear h ho
      go_wp2_with fail
      refine (Odd_calls w5 s 0 (n.tdiv d) q5.at).mono ?_
      rintro e w6 ⟨rfl, rfl⟩
      rw [HO.out]
      go_wp2
      go_ret
      rw [LN.out, if_neg HC.out]
      exact ⟨s, rfl, q5, by omega, g5⟩
  · have HC : Hid (¬ (d < 2 * R ∨ (2 * R = d ∧ (n.tdiv d).natAbs % 2 = 1))) := Lib.hid (by omega)
    rw [Int.sign_eq_neg_one_of_neg (by omega)]
    clear h
    go_wp2
    go_ret
    rw [LN.out, if_neg HC.out]
    exact ⟨s, rfl, q5, by omega, g5⟩

end Go.Proofs.YtmfmfpmkgmkgiaaGreatDoor
