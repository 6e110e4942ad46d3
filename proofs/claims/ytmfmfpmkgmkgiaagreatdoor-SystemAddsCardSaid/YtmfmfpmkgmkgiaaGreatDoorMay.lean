/- Contracts of the program's functions, and what they rest on: AddA. -/
import Derived.Test.YtmfmfpmkgmkgiaaGreatDoorMao
import Derived.Test.YtmfmfpmkgmkgiaaGreatDoorMax
set_option linter.unusedVariables false
set_option linter.unusedSimpArgs false
namespace Go.Proofs.YtmfmfpmkgmkgiaaGreatDoor
open Go.RowKit

theorem accZ_add {k1 k2 k3 k4 : Int} {l : List CellP} {x y s z : List Int} (hk : k1 + k2 = k3 + k4) (h : ∀ i, x.getD i 0 + y.getD i 0 = s.getD i 0 + z.getD i 0) : ∀ t, accZ k1 l x t + accZ k2 l y t = accZ k3 l s t + accZ k4 l z t
  | 0 => hk
  | t + 1 => by
    have ih := accZ_add (l := l) hk h t
    have e := h (l.getD t cell0).col.toNat
    simp only [accZ]
    generalize (l.getD t cell0).z = c at *
    generalize x.getD (l.getD t cell0).col.toNat 0 = X at *
    generalize y.getD (l.getD t cell0).col.toNat 0 = Y at *
    generalize s.getD (l.getD t cell0).col.toNat 0 = S at *
    generalize z.getD (l.getD t cell0).col.toNat 0 = Z at *
    have e2 : c * X + c * Y = c * S + c * Z := by rw [← Int.mul_add, e, Int.mul_add]
    omega
theorem sideZ_add {r : RowP} {p1 s1 p2 s2 p3 s3 p4 s4 : List Int} (hp : ∀ i, p1.getD i 0 + p2.getD i 0 = p3.getD i 0 + p4.getD i 0) (hs : ∀ i, s1.getD i 0 + s2.getD i 0 = s3.getD i 0 + s4.getD i 0) :
    sideZ r p1 s1 + sideZ r p2 s2 = sideZ r p3 s3 + sideZ r p4 s4 := accZ_add (accZ_add rfl hp _) hs _
def tab (n k : Nat) (f : Nat → Int) : List Int := (List.range n).map fun t => if t < k then f t else 0
theorem tab_length (n k : Nat) (f : Nat → Int) : (tab n k f).length = n := by simp [tab]
theorem tab_getD (n k : Nat) (f : Nat → Int) (i : Nat) : (tab n k f).getD i 0 = if i < n ∧ i < k then f i else 0 := by
  unfold tab
  rw [List.getD_eq_getElem?_getD]
  by_cases h : i < n
  · simp [h]
  · simp [h]
theorem tab_zero (n : Nat) (f : Nat → Int) : tab n 0 f = List.replicate n 0 := by
  apply List.ext_getElem
  · simp [tab]
  · intro i h1 h2; simp [tab]
theorem tab_set {n k : Nat} (f : Nat → Int) : (tab n k f).set k (f k) = tab n (k + 1) f := by
  apply List.ext_getElem
  · simp [tab]
  · intro i h1 h2
    simp only [tab, List.getElem_set, List.getElem_map, List.getElem_range]
    by_cases h : k = i
    · subst h; simp
    · rw [if_neg h]
      by_cases h3 : i < k
      · rw [if_pos h3, if_pos (by omega)]
      · rw [if_neg h3, if_neg (by omega)]
theorem tab_skip {n k : Nat} {f : Nat → Int} (h : f k = 0) : tab n k f = tab n (k + 1) f := by
  apply List.ext_getElem
  · simp [tab]
  · intro i h1 h2
    simp only [tab, List.getElem_map, List.getElem_range]
    by_cases h3 : i < k
    · rw [if_pos h3, if_pos (by omega)]
    · rw [if_neg h3]
      by_cases h4 : i = k
      · subst h4; rw [if_pos (by omega), h]
      · rw [if_neg (by omega)]
theorem tab_mem {n k : Nat} {f : Nat → Int} {x : Int} (h : x ∈ tab n k f) : x = 0 ∨ ∃ i, i < n ∧ i < k ∧ x = f i := by
  unfold tab at h
  rw [List.mem_map] at h
  obtain ⟨i, hi, rfl⟩ := h
  by_cases h1 : i < k
  · rw [if_pos h1]; exact .inr ⟨i, by simpa using hi, h1, rfl⟩
  · rw [if_neg h1]; exact .inl rfl
def OwnZ (w : World) (g : Nat) (xs : List Int) : Prop := ∃ T, w.heap[g]? = some (.cells (ints xs).toArray T (0, 0))
theorem OwnZ.cell {w : World} {g : Nat} {xs : List Int} (h : OwnZ w g xs) {i : Nat} (hi : i < xs.length) : w.cell? ⟨g, i, none⟩ = some (.int .i64 (xs.getD i 0)) := by
  obtain ⟨T, hh⟩ := h
  rw [cell_of_heap hh]
  simpa using ints_get xs i hi
theorem OwnZ.free {w : World} {g : Nat} {xs : List Int} (h : OwnZ w g xs) (i : Nat) : w.frozen? ⟨g, i, none⟩ = false := by
  obtain ⟨T, hh⟩ := h
  exact free_of_heap hh i
theorem OwnZ.set {w : World} {g : Nat} {xs : List Int} (h : OwnZ w g xs) (i : Nat) (z : Int) : OwnZ (w.setCell ⟨g, i, none⟩ (.int .i64 z)) g (xs.set i z) := by
  obtain ⟨T, hh⟩ := h
  exact ⟨T, by rw [heap_set hh]; simp [ints, List.map_set]⟩
theorem OwnZ.other {w w' : World} {g r : Nat} {xs : List Int} (h : OwnZ w g xs) (hg : w.grownBy w' (some r)) (hne : g ≠ r) : OwnZ w' g xs := by
  obtain ⟨T, hh⟩ := h
  exact ⟨T, gb_heap hg hh (by simpa using hne)⟩
theorem OwnZ.more {w w' : World} {g : Nat} {xs : List Int} (h : OwnZ w g xs) (hg : w.grownBy w' none) : OwnZ w' g xs := by
  obtain ⟨T, hh⟩ := h
  exact ⟨T, gb_heap hg hh (by simp)⟩
theorem OwnZ.row {w : World} {g : Nat} {xs : List Int} (h : OwnZ w g xs) (hl : xs.length ≤ 9223372036854775807) (hx : ∀ x ∈ xs, I64 x) : IntRow w (.slice (some ⟨g, 0, none⟩) xs.length xs.length) xs :=
  ⟨_, _, rfl, Nat.le_refl _, hl, hx, fun _ => ⟨g, 0, rfl, fun i hi => by rw [Nat.zero_add]; exact h.cell hi⟩⟩
theorem OwnZ.lt {w : World} {g : Nat} {xs : List Int} (h : OwnZ w g xs) : g < w.heap.size := by
  obtain ⟨T, hh⟩ := h
  exact lt_of_heap hh
theorem zeros_i64s (n : Nat) : i64s (List.replicate n 0) = ints (List.replicate n 0) := by simp [i64s, ints]
theorem rhs_form {l : List RowP} {prev src : List Int} (h0 : sysE l = 0) (hl : prev.length = l.length) (hp : prev.all onG = true) (hs : src.all onG = true) :
    rhsE l prev src = if rowsFit l src.length then (if ∀ i, i < l.length → lim ((sides l prev src).getD i 0) ≤ 72 then 0 else 13) else 5 := by
  unfold rhsE
  rw [if_neg (by simp [h0]), if_neg (by simp [hl])]
  by_cases hf : rowsFit l src.length
  · rw [if_neg (by simp [hf]), if_neg (by simp [hp, hs]), if_pos hf]
  · rw [if_pos hf, if_neg hf]
theorem rhs_ok {l : List RowP} {prev src : List Int} (h : rhsE l prev src = 0) : (rhsV l prev src) = sides l prev src ∧ ∀ i, i < l.length → lim ((sides l prev src).getD i 0) ≤ 72 := by
  refine ⟨by unfold rhsV; rw [if_pos h], ?_⟩
  unfold rhsE at h
  split at h
  · rename_i h1; exact absurd h h1
  · split at h
    · omega
    · split at h
      · omega
      · split at h
        · omega
        · split at h
          · assumption
          · omega
theorem sides_length (l : List RowP) (prev src : List Int) : (sides l prev src).length = l.length := by simp [sides]
theorem sides_getD (l : List RowP) (prev src : List Int) {i : Nat} (hi : i < l.length) : (sides l prev src).getD i 0 = sideZ (l.getD i row0) prev src := by
  simp [sides, List.getD, hi]
theorem adds_E {l : List RowP} {p1 s1 p2 s2 p3 s3 p4 s4 : List Int} (h0 : sysE l = 0) (l1 : p1.length = l.length) (l2 : p2.length = l.length) (l3 : p3.length = l.length) (l4 : p4.length = l.length)
    (m2 : s2.length = s1.length) (m3 : s3.length = s1.length) (m4 : s4.length = s1.length) (a1 : p1.all onG = true) (a2 : p2.all onG = true) (a3 : p3.all onG = true) (a4 : p4.all onG = true)
    (b1 : s1.all onG = true) (b2 : s2.all onG = true) (b3 : s3.all onG = true) (b4 : s4.all onG = true) :
    (rhsE l p1 s1 = 5 ∧ rhsE l p2 s2 = 5 ∧ rhsE l p3 s3 = 5 ∧ rhsE l p4 s4 = 5) ∨
    ((rhsE l p1 s1 = 0 ∨ rhsE l p1 s1 = 13) ∧ (rhsE l p2 s2 = 0 ∨ rhsE l p2 s2 = 13) ∧ (rhsE l p3 s3 = 0 ∨ rhsE l p3 s3 = 13) ∧ (rhsE l p4 s4 = 0 ∨ rhsE l p4 s4 = 13)) := by
  rw [rhs_form h0 l1 a1 b1, rhs_form h0 l2 a2 b2, rhs_form h0 l3 a3 b3, rhs_form h0 l4 a4 b4, m2, m3, m4]
  by_cases hf : rowsFit l s1.length
  · simp only [if_pos hf]
    refine .inr ⟨?_, ?_, ?_, ?_⟩ <;> (split; exact .inl rfl; exact .inr rfl)
  · simp only [if_neg hf]
    exact .inl (by simp)
theorem onG_iff {x : Int} : onG x = true ↔ -1000000000000000000 ≤ x ∧ x ≤ 1000000000000000000 := by
  unfold onG; simp; omega
theorem all_getD {l : List Int} (h : l.all onG = true) (i : Nat) : onG (l.getD i 0) = true := by
  rw [List.getD_eq_getElem?_getD]
  by_cases hi : i < l.length
  · rw [List.getElem?_eq_getElem hi]
    exact List.all_eq_true.1 h _ (List.getElem_mem hi)
  · rw [List.getElem?_eq_none (by omega)]; rfl
end Go.Proofs.YtmfmfpmkgmkgiaaGreatDoor
