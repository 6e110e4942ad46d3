/- Contracts of the program's functions, and what they rest on: BigB BigC Own BigD BigE. -/
import Derived.Test.YtmfmfpmkgmkgiaaGreatDoorMaa
import Derived.Deep.RegionWith
import Derived.Maps.AppendAt
import Derived.StillTailTactics
set_option linter.unusedVariables false
set_option linter.unusedSimpArgs false
namespace Go.Proofs.YtmfmfpmkgmkgiaaGreatDoor
open Go.RowKit

theorem u32info : (Tryz.prog.info? 56).map (fun i => (i.zero, i.size, i.bytes)) = some (some (.int .u32 0), 1, 4) := by kernel_rfl

theorem add_step {os xs ys : List Nat} {k n x c y : Nat} (h : os.length = n + 1 ∧ (∀ d ∈ os, d < 4294967296) ∧ val 4294967296 (os.take k) + 4294967296 ^ k * c = val 4294967296 (xs.take k) + val 4294967296 (ys.take k))
    (hk : k < n) (hx : xs[k]?.getD 0 = x) (hy : ys[k]?.getD 0 = y) :
    (os.set k ((x + c + y) % 4294967296)).length = n + 1 ∧ (∀ d ∈ os.set k ((x + c + y) % 4294967296), d < 4294967296) ∧
      val 4294967296 ((os.set k ((x + c + y) % 4294967296)).take (k + 1)) + 4294967296 ^ (k + 1) * ((x + c + y) / 4294967296) = val 4294967296 (xs.take (k + 1)) + val 4294967296 (ys.take (k + 1)) := by
  obtain ⟨h1, h2, h3⟩ := h
  refine ⟨by simpa using h1, set_lt h2 _ _ (Nat.mod_lt _ (by omega)), ?_⟩
  rw [val_set_succ _ _ _ _ (by omega), val_take_succ, val_take_succ, List.getD_eq_getElem?_getD, List.getD_eq_getElem?_getD, hx, hy, Nat.pow_succ]
  have e := Nat.mod_add_div (x + c + y) 4294967296
  generalize (x + c + y) % 4294967296 = r at *
  generalize (x + c + y) / 4294967296 = q at *
  generalize 4294967296 ^ k = p at *
  have : p * r + p * 4294967296 * q = p * (x + c + y) := by rw [← e]; grind
  grind

set_option maxHeartbeats 40000000 in
theorem add_ge (w : World) (v1 v2 : Value) (xs ys : List Nat) (hx : Nums w v1 xs) (hy : Nums w v2 ys) (hl : xs.length ≤ 1099511627776) (hle : ys.length ≤ xs.length) :
    Calls Tryz.prog 178 #[v1, v2] w fun e w' => ∃ v os, e = .returned v ∧ Nums w' v os ∧ val 4294967296 os = val 4294967296 xs + val 4294967296 ys ∧ os.length = xs.length + 1 ∧ w.grownBy w' none := by
  have bx := hx.lt
  have by' := hy.lt
  obtain ⟨A, c, rfl, h1, h2, hA⟩ := hx.read
  obtain ⟨A', c', rfl, h1', h2', hA'⟩ := hy.read
  have t : decide ((xs.length : Int) < (ys.length : Int)) = false := by simp; omega
  have hmk := make_u32 (P := Tryz.prog) 47 56 Tryz.underlying47 u32info (xs.length + 1) (by omega) ((xs.length : Int) + 1) (by omega)
  go_enter Tryz.func178, Tryz.ntmps178
  go_wp2
  go_loopw [6, 22] (fun cy i wr => ∃ (k c : Nat) (os : List Nat), k ≤ xs.length ∧ i = .int .i64 k ∧ cy = .int .u64 c ∧ c ≤ 1 ∧ w.grownBy wr none ∧ OwnNums wr w.heap.size os ∧ w.heap.size < wr.heap.size ∧
      Hid (os.length = xs.length + 1 ∧ (∀ d ∈ os, d < 4294967296) ∧ val 4294967296 (os.take k) + 4294967296 ^ k * c = val 4294967296 (xs.take k) + val 4294967296 (ys.take k))) (fun _ i _ => xs.length - (intOf i).toNat)
  case atStart => exact ⟨0, 0, _, by omega, rfl, rfl, by omega, gb_alloc _ _ _, OwnNums.made _ _ _, by simp, by simp, by simp, by simp [val]⟩
  case round =>
    obtain ⟨k, cy, os, hk, rfl, rfl, hcy, hg, ho, hsz, hv⟩ := hrel
    clear hmk
    by_cases hlt : k < xs.length
    · obtain ⟨b, o, rfl, hc⟩ := hA (by omega)
      have g1 := gb_cell hg (hc k hlt) (by simp)
      have g2 := ho.cell k (by rw [hv.out.1]; omega)
      have g3 := ho.free k
      have b1 := bx k
      clear hc hA
      generalize hxk : xs[k]?.getD 0 = x at g1 b1
      have HX := Lib.hid hxk
      clear hxk
      by_cases hy2 : k < ys.length
      · obtain ⟨b', o', rfl, hc'⟩ := hA' (by omega)
        have g4 := gb_cell hg (hc' k hy2) (by simp)
        have b2 := by' k
        clear hA' hc'
        generalize hyk : ys[k]?.getD 0 = y at g4 b2
        have HY := Lib.hid hyk
        clear hyk bx by'
        go_wp2
        exact ⟨⟨k + 1, (x + cy + y) / 4294967296, _, by omega, by go_num, num_eq (by omega), by omega, gb_new hg (gb_set _ _ _ _) (Nat.le_refl _), ho.set' k ((x + cy + y) % 4294967296) _ (by omega), by simpa using hsz, Lib.hid (add_step hv.out hlt HX.out HY.out)⟩, by simp [intOf]; omega⟩
      · clear hA'
        go_wp2
        exact ⟨⟨k + 1, (x + cy + 0) / 4294967296, _, by omega, by go_num, num_eq (by omega), by omega, gb_new hg (gb_set _ _ _ _) (Nat.le_refl _), ho.set' k ((x + cy + 0) % 4294967296) _ (by omega), by simpa using hsz, Lib.hid (add_step hv.out hlt HX.out (by rw [List.getElem?_eq_none (by omega)]; rfl))⟩, by simp [intOf]; omega⟩
    · obtain rfl : k = xs.length := by omega
      have g2 := ho.cell xs.length (by rw [hv.out.1]; omega)
      have g3 := ho.free xs.length
      go_wp2
      go_ret
      have hs := ho.set' xs.length cy (cy : Int) rfl
      obtain ⟨v1, v2, v3⟩ := hv.out
      refine ⟨_, os.set xs.length cy, rfl, hs.nums (set_lt v2 _ _ (by omega)) (by simp [v1]) (by simp; omega) (by omega), ?_, by simp [v1], gb_new hg (gb_set _ _ _ _) (Nat.le_refl _)⟩
      have e := val_set_succ 4294967296 os xs.length cy (by omega)
      rw [val_take_ge _ _ _ (by simp; omega)] at e
      rw [e, v3, val_take_ge _ xs _ (Nat.le_refl _), val_take_ge _ ys _ hle]

set_option maxHeartbeats 40000000 in
theorem add_lt (w : World) (v1 v2 : Value) (xs ys : List Nat) (hx : Nums w v1 xs) (hy : Nums w v2 ys) (hl : ys.length ≤ 1099511627776) (hle : xs.length < ys.length) :
    Calls Tryz.prog 178 #[v1, v2] w fun e w' => ∃ v os, e = .returned v ∧ Nums w' v os ∧ val 4294967296 os = val 4294967296 xs + val 4294967296 ys ∧ os.length = ys.length + 1 ∧ w.grownBy w' none := by
  have by' := hy.lt
  have bx := hx.lt
  obtain ⟨A', c', rfl, h1', h2', hA'⟩ := hy.read
  obtain ⟨A, c, rfl, h1, h2, hA⟩ := hx.read
  have t : decide ((xs.length : Int) < (ys.length : Int)) = true := by simp; omega
  have hmk := make_u32 (P := Tryz.prog) 47 56 Tryz.underlying47 u32info (ys.length + 1) (by omega) ((ys.length : Int) + 1) (by omega)
  go_enter Tryz.func178, Tryz.ntmps178
  go_wp2
  go_loopw [6, 22] (fun cy i wr => ∃ (k c' : Nat) (os : List Nat), k ≤ ys.length ∧ i = .int .i64 k ∧ cy = .int .u64 c' ∧ c' ≤ 1 ∧ w.grownBy wr none ∧ OwnNums wr w.heap.size os ∧ w.heap.size < wr.heap.size ∧
      Hid (os.length = ys.length + 1 ∧ (∀ d ∈ os, d < 4294967296) ∧ val 4294967296 (os.take k) + 4294967296 ^ k * c' = val 4294967296 (ys.take k) + val 4294967296 (xs.take k))) (fun _ i _ => ys.length - (intOf i).toNat)
  case atStart => exact ⟨0, 0, _, by omega, rfl, rfl, by omega, gb_alloc _ _ _, OwnNums.made _ _ _, by simp, by simp, by simp, by simp [val]⟩
  case round =>
    obtain ⟨k, cy, os, hk, rfl, rfl, hcy, hg, ho, hsz, hv⟩ := hrel
    clear hmk
    by_cases hlt : k < ys.length
    · obtain ⟨b, o, rfl, hc⟩ := hA' (by omega)
      have g1 := gb_cell hg (hc k hlt) (by simp)
      have g2 := ho.cell k (by rw [hv.out.1]; omega)
      have g3 := ho.free k
      have b1 := by' k
      clear hc hA'
      generalize hxk : ys[k]?.getD 0 = x at g1 b1
      have HX := Lib.hid hxk
      clear hxk
      by_cases hy2 : k < xs.length
      · obtain ⟨b', o', rfl, hc'⟩ := hA (by omega)
        have g4 := gb_cell hg (hc' k hy2) (by simp)
        have b2 := bx k
        clear hA hc'
        generalize hyk : xs[k]?.getD 0 = y at g4 b2
        have HY := Lib.hid hyk
        clear hyk by' bx
        go_wp2
        exact ⟨⟨k + 1, (x + cy + y) / 4294967296, _, by omega, by go_num, num_eq (by omega), by omega, gb_new hg (gb_set _ _ _ _) (Nat.le_refl _), ho.set' k ((x + cy + y) % 4294967296) _ (by omega), by simpa using hsz, Lib.hid (add_step hv.out hlt HX.out HY.out)⟩, by simp [intOf]; omega⟩
      · clear hA
        go_wp2
        exact ⟨⟨k + 1, (x + cy + 0) / 4294967296, _, by omega, by go_num, num_eq (by omega), by omega, gb_new hg (gb_set _ _ _ _) (Nat.le_refl _), ho.set' k ((x + cy + 0) % 4294967296) _ (by omega), by simpa using hsz, Lib.hid (add_step hv.out hlt HX.out (by rw [List.getElem?_eq_none (by omega)]; rfl))⟩, by simp [intOf]; omega⟩
    · obtain rfl : k = ys.length := by omega
      have g2 := ho.cell ys.length (by rw [hv.out.1]; omega)
      have g3 := ho.free ys.length
      go_wp2
      go_ret
      have hs := ho.set' ys.length cy (cy : Int) rfl
      obtain ⟨v1, v2, v3⟩ := hv.out
      refine ⟨_, os.set ys.length cy, rfl, hs.nums (set_lt v2 _ _ (by omega)) (by simp [v1]) (by simp; omega) (by omega), ?_, by simp [v1], gb_new hg (gb_set _ _ _ _) (Nat.le_refl _)⟩
      have e := val_set_succ 4294967296 os ys.length cy (by omega)
      rw [val_take_ge _ _ _ (by simp; omega)] at e
      rw [e, v3, val_take_ge _ ys _ (Nat.le_refl _), val_take_ge _ xs _ (by omega)]; omega

theorem add_calls (w : World) (v1 v2 : Value) (xs ys : List Nat) (hx : Nums w v1 xs) (hy : Nums w v2 ys) (hl : xs.length ≤ 1099511627776) (hl' : ys.length ≤ 1099511627776) :
    Calls Tryz.prog 178 #[v1, v2] w fun e w' => ∃ v os, e = .returned v ∧ Nums w' v os ∧ val 4294967296 os = val 4294967296 xs + val 4294967296 ys ∧ w.grownBy w' none := by
  by_cases h : xs.length < ys.length
  · exact (add_lt w v1 v2 xs ys hx hy hl' h).mono fun e w' ⟨v, os, a, b, c, _, d⟩ => ⟨v, os, a, b, c, d⟩
  · exact (add_ge w v1 v2 xs ys hx hy hl (by omega)).mono fun e w' ⟨v, os, a, b, c, _, d⟩ => ⟨v, os, a, b, c, d⟩
theorem sub_step {os xs ys : List Nat} {k n x c y : Nat} (h : os.length = n ∧ (∀ d ∈ os, d < 4294967296) ∧ val 4294967296 (os.take k) + val 4294967296 (ys.take k) = val 4294967296 (xs.take k) + 4294967296 ^ k * c)
    (hk : k < n) (hx : xs[k]?.getD 0 = x) (hy : ys[k]?.getD 0 = y) (d c' : Nat) (hd : d + (c + y) = x + 4294967296 * c') (hd' : d < 4294967296) :
    (os.set k d).length = n ∧ (∀ e ∈ os.set k d, e < 4294967296) ∧
      val 4294967296 ((os.set k d).take (k + 1)) + val 4294967296 (ys.take (k + 1)) = val 4294967296 (xs.take (k + 1)) + 4294967296 ^ (k + 1) * c' := by
  obtain ⟨h1, h2, h3⟩ := h
  refine ⟨by simpa using h1, set_lt h2 _ _ hd', ?_⟩
  rw [val_set_succ _ _ _ _ (by omega), val_take_succ, val_take_succ, List.getD_eq_getElem?_getD, List.getD_eq_getElem?_getD, hx, hy, Nat.pow_succ]
  generalize 4294967296 ^ k = p at *
  have : p * d + p * (c + y) = p * x + p * 4294967296 * c' := by rw [← Nat.mul_add, hd]; grind
  grind

set_option maxHeartbeats 40000000 in
theorem sub_calls (w : World) (v1 v2 : Value) (xs ys : List Nat) (hx : Nums w v1 xs) (hy : Nums w v2 ys) (hl : xs.length ≤ 1099511627776) (hle : Hid (ys.length ≤ xs.length ∧ val 4294967296 ys ≤ val 4294967296 xs)) :
    Calls Tryz.prog 180 #[v1, v2] w fun e w' => ∃ v os, e = .returned v ∧ Nums w' v os ∧ val 4294967296 os + val 4294967296 ys = val 4294967296 xs ∧ os.length = xs.length ∧ w.grownBy w' none := by
  have bx := hx.lt
  have by' := hy.lt
  obtain ⟨A, c, rfl, h1, h2, hA⟩ := hx.read
  obtain ⟨A', c', rfl, h1', h2', hA'⟩ := hy.read
  have hmk := make_u32 (P := Tryz.prog) 47 56 Tryz.underlying47 u32info xs.length (by omega) (xs.length : Int) rfl
  go_enter Tryz.func180, Tryz.ntmps180
  go_wp2
  go_loopw [6, 14] (fun cy i wr => ∃ (k c : Nat) (os : List Nat), k ≤ xs.length ∧ i = .int .i64 k ∧ cy = .int .u64 c ∧ c ≤ 1 ∧ w.grownBy wr none ∧ OwnNums wr w.heap.size os ∧ w.heap.size < wr.heap.size ∧
      Hid (os.length = xs.length ∧ (∀ d ∈ os, d < 4294967296) ∧ val 4294967296 (os.take k) + val 4294967296 (ys.take k) = val 4294967296 (xs.take k) + 4294967296 ^ k * c)) (fun _ i _ => xs.length - (intOf i).toNat)
  case atStart => exact ⟨0, 0, _, by omega, rfl, rfl, by omega, gb_alloc _ _ _, OwnNums.made _ _ _, by simp, by simp, by simp, by simp [val]⟩
  case round =>
    obtain ⟨k, cy, os, hk, rfl, rfl, hcy, hg, ho, hsz, hv⟩ := hrel
    clear hmk
    by_cases hlt : k < xs.length
    · obtain ⟨b, o, rfl, hc⟩ := hA (by omega)
      have g1 := gb_cell hg (hc k hlt) (by simp)
      have g2 := ho.cell k (by rw [hv.out.1]; omega)
      have g3 := ho.free k
      have b1 := bx k
      have hc0 := hc k hlt
      clear hc hA
      generalize hxk : xs[k]?.getD 0 = x at g1 b1 hc0
      have HX := Lib.hid hxk
      clear hxk
      by_cases hy2 : k < ys.length
      · obtain ⟨b', o', rfl, hc'⟩ := hA' (by omega)
        have g4 := gb_cell hg (hc' k hy2) (by simp)
        have b2 := by' k
        clear hA' hc'
        generalize hyk : ys[k]?.getD 0 = y at g4 b2
        have HY := Lib.hid hyk
        clear hyk bx by'
        have ne := new_ne hc0
        clear hc0
        go_wp2
        · exact ⟨⟨k + 1, 1, _, by omega, by go_num, rfl, by omega, gb_new hg (gb_set _ _ _ _) (Nat.le_refl _), ho.set' k (x + 4294967296 - (cy + y)) _ (by rw [u64_wrap]; omega), by simpa using hsz, Lib.hid (sub_step hv.out hlt HX.out HY.out _ 1 (by omega) (by omega))⟩, by simp [intOf]; omega⟩
        · exact ⟨⟨k + 1, 0, _, by omega, by go_num, rfl, by omega, gb_new hg (gb_set _ _ _ _) (Nat.le_refl _), ho.set' k (x - (cy + y)) _ (by omega), by simpa using hsz, Lib.hid (sub_step hv.out hlt HX.out HY.out _ 0 (by omega) (by omega))⟩, by simp [intOf]; omega⟩
      · have HY : Hid (ys[k]?.getD 0 = 0) := by
          have : ys[k]? = none := List.getElem?_eq_none (by omega)
          exact Lib.hid (by rw [this]; rfl)
        clear hA'
        have ne := new_ne hc0
        clear hc0 bx by'
        go_wp2
        · exact ⟨⟨k + 1, 1, _, by omega, by go_num, rfl, by omega, gb_new hg (gb_set _ _ _ _) (Nat.le_refl _), ho.set' k (x + 4294967296 - (cy + 0)) _ (by rw [u64_wrap]; omega), by simpa using hsz, Lib.hid (sub_step hv.out hlt HX.out HY.out _ 1 (by omega) (by omega))⟩, by simp [intOf]; omega⟩
        · exact ⟨⟨k + 1, 0, _, by omega, by go_num, rfl, by omega, gb_new hg (gb_set _ _ _ _) (Nat.le_refl _), ho.set' k (x - (cy + 0)) _ (by omega), by simpa using hsz, Lib.hid (sub_step hv.out hlt HX.out HY.out _ 0 (by omega) (by omega))⟩, by simp [intOf]; omega⟩
    · obtain rfl : k = xs.length := by omega
      go_wp2
      go_ret
      obtain ⟨v1, v2, v3⟩ := hv.out
      refine ⟨_, os, rfl, ho.nums v2 v1.symm (by omega) (by omega), ?_, v1, hg⟩
      rw [val_take_ge _ os _ (by omega), val_take_ge _ ys _ hle.out.1, val_take_ge _ xs _ (Nat.le_refl _)] at v3
      have l1 := hle.out.2
      have l2 := val_lt 4294967296 os v2
      rw [v1] at l2
      generalize 4294967296 ^ xs.length = p at *
      obtain rfl | rfl : cy = 0 ∨ cy = 1 := by omega
      · omega
      · omega

end Go.Proofs.YtmfmfpmkgmkgiaaGreatDoor

namespace Go.Proofs.YtmfmfpmkgmkgiaaGreatDoor
open Go.RowKit

set_option maxHeartbeats 40000000 in
theorem sum_same (w : World) (bz bx ox : Nat) (z x : Int) (v2 : Value) (ys : List Nat) (hz : IntB w bz z) (hx : IntAt w bx ox x) (hy : Nums w v2 ys) (lx : lim x ≤ 1099511627776) (ly : ys.length ≤ 1099511627776) :
    Calls Tryz.prog 114 #[.pointer (some ⟨bz, 0, none⟩), .pointer (some ⟨bx, ox, none⟩), .bool (decide (x < 0)), v2] w fun e w' => e = .returned (.pointer (some ⟨bz, 0, none⟩)) ∧ IntB w' bz (sg (decide (x < 0)) (x.natAbs + val 4294967296 ys)) ∧ w.grownBy w' (some bz) := by
  obtain ⟨vx, c0, c1, hnx⟩ := hx
  generalize decide (x < 0) = neg at *
  go_enter Tryz.func114, Tryz.ntmps114
  go_wp2
  go_region_with (first
    | (go_at_call 178; refine (add_calls _ vx v2 (digs x) ys hnx.drew hy.drew lx ly).mono ?_; rintro e w1 ⟨v, os, rfl, hv, hval, hg⟩; have g0 := gb_cell hg c0 (by simp))
    | (go_at_call 115; refine (set_calls _ bz z neg v os (hz.drew.more hg) hv).mono ?_; rintro e w2 ⟨rfl, hi, hg2⟩))
  all_goals
    go_wp2
    go_ret
    rw [hval, val_digs] at hi
    exact ⟨rfl, hi, gb_of_drew (gb_trans (gb_none hg) hg2)⟩

set_option maxHeartbeats 40000000 in
theorem sum_less (w : World) (bz bx ox : Nat) (z x : Int) (yneg : Bool) (v2 : Value) (n : Nat) (hz : IntB w bz z) (hx : IntAt w bx ox x) (hy : Nums w v2 (dig 4294967296 n)) (hs : (decide (x < 0) == yneg) = false) (hle : Hid (n ≤ x.natAbs)) (lx : lim x ≤ 1099511627776) :
    Calls Tryz.prog 114 #[.pointer (some ⟨bz, 0, none⟩), .pointer (some ⟨bx, ox, none⟩), .bool yneg, v2] w fun e w' => e = .returned (.pointer (some ⟨bz, 0, none⟩)) ∧ IntB w' bz (sg (decide (x < 0)) (x.natAbs - n)) ∧ w.grownBy w' (some bz) := by
  obtain ⟨vx, c0, c1, hnx⟩ := hx
  have hc : Hid (0 ≤ cmpL (digs x) (dig 4294967296 n)) := by
    unfold digs; rw [cmpL_dig]; unfold cmpN; have := hle.out; refine Lib.hid ?_; rw [if_neg (by omega)]; split <;> omega
  have hle2 : Hid ((dig 4294967296 n).length ≤ (digs x).length ∧ val 4294967296 (dig 4294967296 n) ≤ val 4294967296 (digs x)) := by
    refine Lib.hid ⟨?_, by rw [val_digs, val_dig _ (by omega)]; exact hle.out⟩
    refine (dig_len _ (by omega) _ _).2 (Nat.lt_of_le_of_lt hle.out ?_)
    exact (lim_le x _).1 (Nat.le_refl _)
  generalize hnn : decide (x < 0) = neg at *
  clear hnn
  go_enter Tryz.func114, Tryz.ntmps114
  go_wp2_with fail
  refine (cmp_calls _ vx v2 (digs x) (dig 4294967296 n) hnx hy).mono ?_
  rintro e w' ⟨rfl, m, rfl⟩
  have hge := hc.out
  generalize cmpL (digs x) (dig 4294967296 n) = c at *
  clear hc
  go_wp2_with fail
  go_region_with (first
    | (go_at_call 180; refine (sub_calls _ vx v2 (digs x) (dig 4294967296 n) (hnx.more (gb_trans (gb_drewN w m _) (gb_drew _ _))) (hy.more (gb_trans (gb_drewN w m _) (gb_drew _ _))) lx hle2).mono ?_; rintro e w1 ⟨v, os, rfl, hv, hval, hlen, hg⟩; have g0 := gb_cell (gb_trans (gb_drewN w m _) (gb_of_drew hg)) c0 (by simp))
    | (go_at_call 115; refine (set_calls _ bz z neg v os (hz.more (gb_trans (gb_drewN w m _) (gb_of_drew hg))) hv).mono ?_; rintro e w2 ⟨rfl, hi, hg2⟩))
  all_goals
    go_wp2
    go_ret
    rw [val_digs, val_dig _ (by omega)] at hval
    rw [show val 4294967296 os = x.natAbs - n by omega] at hi
    exact ⟨rfl, hi, gb_trans (gb_none (gb_trans (gb_drewN w m _) (gb_of_drew hg))) hg2⟩

set_option maxHeartbeats 40000000 in
theorem sum_more (w : World) (bz bx ox : Nat) (z x : Int) (yneg : Bool) (v2 : Value) (n : Nat) (hz : IntB w bz z) (hx : IntAt w bx ox x) (hy : Nums w v2 (dig 4294967296 n)) (hs : (decide (x < 0) == yneg) = false) (hle : Hid (x.natAbs < n)) (ly : (dig 4294967296 n).length ≤ 1099511627776) :
    Calls Tryz.prog 114 #[.pointer (some ⟨bz, 0, none⟩), .pointer (some ⟨bx, ox, none⟩), .bool yneg, v2] w fun e w' => e = .returned (.pointer (some ⟨bz, 0, none⟩)) ∧ IntB w' bz (sg yneg (n - x.natAbs)) ∧ w.grownBy w' (some bz) := by
  obtain ⟨vx, c0, c1, hnx⟩ := hx
  have hc : Hid (cmpL (digs x) (dig 4294967296 n) < 0) := by
    unfold digs; rw [cmpL_dig]; unfold cmpN; have := hle.out; refine Lib.hid ?_; rw [if_pos (by omega)]; omega
  have hle2 : Hid ((digs x).length ≤ (dig 4294967296 n).length ∧ val 4294967296 (digs x) ≤ val 4294967296 (dig 4294967296 n)) := by
    have := hle.out
    refine Lib.hid ⟨?_, by rw [val_digs, val_dig _ (by omega)]; omega⟩
    refine (dig_len _ (by omega) _ _).2 (Nat.lt_of_le_of_lt (Nat.le_of_lt this) ?_)
    exact (dig_len _ (by omega) _ _).1 (Nat.le_refl _)
  generalize hnn : decide (x < 0) = neg at *
  clear hnn
  go_enter Tryz.func114, Tryz.ntmps114
  go_wp2_with fail
  refine (cmp_calls _ vx v2 (digs x) (dig 4294967296 n) hnx hy).mono ?_
  rintro e w' ⟨rfl, m, rfl⟩
  have hge := hc.out
  generalize cmpL (digs x) (dig 4294967296 n) = c at *
  clear hc
  go_wp2_with fail
  refine (sub_calls _ v2 vx (dig 4294967296 n) (digs x) (hy.more (gb_drewN w m _)) (hnx.more (gb_drewN w m _)) ly hle2).mono ?_
  rintro e w1 ⟨v, os, rfl, hv, hval, hlen, hg⟩
  go_wp2_with fail
  refine (set_calls _ bz z yneg v os (hz.more (gb_trans (gb_drewN w m _) hg)) hv).mono ?_
  rintro e w2 ⟨rfl, hi, hg2⟩
  go_wp2
  go_ret
  rw [val_digs, val_dig _ (by omega)] at hval
  rw [show val 4294967296 os = n - x.natAbs by omega] at hi
  exact ⟨rfl, hi, gb_trans (gb_none (gb_trans (gb_drewN w m _) hg)) hg2⟩
theorem sum_calls (w : World) (bz bx ox : Nat) (z x : Int) (yneg : Bool) (v2 : Value) (n : Nat) (hz : IntB w bz z) (hx : IntAt w bx ox x) (hy : Nums w v2 (dig 4294967296 n)) (lx : lim x ≤ 1099511627776) (ly : (dig 4294967296 n).length ≤ 1099511627776) :
    Calls Tryz.prog 114 #[.pointer (some ⟨bz, 0, none⟩), .pointer (some ⟨bx, ox, none⟩), .bool yneg, v2] w fun e w' => e = .returned (.pointer (some ⟨bz, 0, none⟩)) ∧ IntB w' bz (x + sg yneg n) ∧ w.grownBy w' (some bz) := by
  by_cases hs : decide (x < 0) = yneg
  · subst hs
    refine (sum_same w bz bx ox z x v2 _ hz hx hy lx ly).mono fun e w' ⟨a, b, c⟩ => ⟨a, ?_, c⟩
    rw [val_dig _ (by omega)] at b
    have : sg (decide (x < 0)) (x.natAbs + n) = x + sg (decide (x < 0)) n := by
      unfold sg; by_cases h : x < 0 <;> simp [h] <;> omega
    rwa [← this]
  · have hs' : (decide (x < 0) == yneg) = false := by simpa using hs
    by_cases hle : n ≤ x.natAbs
    · refine (sum_less w bz bx ox z x yneg v2 n hz hx hy hs' hle lx).mono fun e w' ⟨a, b, c⟩ => ⟨a, ?_, c⟩
      have : sg (decide (x < 0)) (x.natAbs - n) = x + sg yneg n := by
        unfold sg; cases yneg <;> by_cases h : x < 0 <;> simp [h] at hs ⊢ <;> omega
      rwa [← this]
    · refine (sum_more w bz bx ox z x yneg v2 n hz hx hy hs' (Nat.lt_of_not_le hle) ly).mono fun e w' ⟨a, b, c⟩ => ⟨a, ?_, c⟩
      have : sg yneg (n - x.natAbs) = x + sg yneg n := by
        unfold sg; cases yneg <;> by_cases h : x < 0 <;> simp [h] at hs ⊢ <;> omega
      rwa [← this]

end Go.Proofs.YtmfmfpmkgmkgiaaGreatDoor

namespace Go.Proofs.YtmfmfpmkgmkgiaaGreatDoor
open Go.RowKit
def From (base : Nat) (v : Value) : Prop := ∀ b, v.ownBlock = some b → base ≤ b
theorem From.mono {b b' : Nat} {v : Value} (h : From b v) (hb : b' ≤ b) : From b' v := fun k hk => Nat.le_trans hb (h k hk)
theorem own_from {w : World} {base : Nat} {e : TypeId} {size n : Nat} {v : Value} {xs : List Value} (h : w.ownsRow base e size v n xs) : From base v := by
  intro k hk
  rcases h.2 with ⟨rfl, _⟩ | ⟨g, cap, cur, rfl, hb, _⟩
  · simp [Value.ownBlock] at hk
  · have : g = k := by simpa [Value.ownBlock] using hk
    omega
theorem own_row {w : World} {base : Nat} {e : TypeId} {n : Nat} {v : Value} {xs : List Value} (h : w.ownsRow base e 1 v n xs) : Row w v xs := by
  have hl : xs.length = n := by have := h.1; omega
  rcases h.2 with ⟨rfl, h0⟩ | ⟨g, cap, cur, rfl, _, hh, h1, h2, h3, h4⟩
  · obtain rfl : xs = [] := List.eq_nil_of_length_eq_zero (by omega)
    exact Row.nil w
  · refine Row.mk hl.symm (by omega) (by simpa [maxLen] using h2) fun i hi => ?_
    rw [cell_of_heap hh, Nat.zero_add, ← h4]
    rw [List.getElem?_take, if_pos (by omega)]
    simp

section
variable {P : Program} {ops : Array Oper} {rest : List Oper} {o : Oper} {a : Act} {Q : Exit → Act → World → Prop}
theorem app_src {W : World} (base : Nat) (hgd : o.guard = none) (s x : Operand) (t e : TypeId) (z : Value) (size bytes : Nat)
    (ho : o.op = .call { callee := .builtin .append, args := #[s, x], argTypes := #[t, t] })
    (ht : P.underlying t = some (.slice e)) (hinfo : (P.info? e).map (fun i => (i.zero, i.size, i.bytes)) = some (some z, size, bytes)) (hz : z.cells.size = size) (hsz : 0 < size) (hb0 : 0 < bytes)
    (v : Value) (n : Nat) (xs : List Value) (hs : a.eval s = v) (HO : W.ownsRow base e size v n xs)
    (A : Option Addr) (m c : Nat) (news : List Value) (hx : a.eval x = .slice A m c) (hl : news.length = m * size)
    (hread : 0 < m → ∃ b o, A = some ⟨b, o, none⟩ ∧ ∀ j, j < m * size → W.cell? ⟨b, o + j, none⟩ = news[j]?) (hA : A = none ∨ ∃ a, A = some a) (h1 : ∀ u ∈ news, u.oneCell' = true)
    (hbytes : (n + m) * bytes ≤ 140737488355328) (hbase : base ≤ W.heap.size)
    (h : ∀ v1 w1, w1.ownsRow base e size v1 (n + m) (xs ++ news) → W.grownBy w1 v.ownBlock → (v1.ownBlock = v.ownBlock ∨ v1.ownBlock = some W.heap.size) → wpList P ops Q rest (a.put o.dst v1) w1) :
    wpList P ops Q (o :: rest) a W := by
  obtain ⟨i0, hi, hzz⟩ := Option.map_eq_some_iff.1 hinfo
  simp only [Prod.mk.injEq] at hzz
  obtain ⟨hz0, hz1, hz2⟩ := hzz
  have hlen : n + m ≤ 140737488355328 := Nat.le_trans (Nat.le_mul_of_pos_right _ hb0) hbytes
  have hrun : ∃ v1 w1, (Builtin.append_ #[t, t] o.type #[v, .slice A m c]).run P W = .ok v1 w1 ∧ w1.ownsRow base e size v1 (n + m) (xs ++ news) ∧ W.grownBy w1 v.ownBlock ∧ (v1.ownBlock = v.ownBlock ∨ v1.ownBlock = some W.heap.size) := by
    rcases hA with rfl | ⟨ad, rfl⟩
    · have h0 : m = 0 := by
        rcases Nat.eq_zero_or_pos m with h0 | h0
        · exact h0
        · obtain ⟨b, o, h, _⟩ := hread h0
          cases h
      subst h0
      obtain rfl : news = [] := List.eq_nil_of_length_eq_zero (by simpa using hl)
      refine ⟨v, W, ?_, by simpa using HO, World.grownBy.refl W _, .inl rfl⟩
      rcases HO.2 with ⟨rfl, hn⟩ | ⟨g, cap, cur, rfl, _, _, hnc, _⟩
      · simp [Builtin.append_, run_underlying ht, sizeOf, typeInfo, hi, Builtin.lenOf, Builtin.firstCells]
      · simp [Builtin.append_, run_underlying ht, sizeOf, typeInfo, hi, Builtin.lenOf, Builtin.firstCells, hnc, storeCells]
    · have hcells : ∀ j u, news[j]? = some u → W.cell? (ad.add j) = some u := by
        intro j u hu
        have hj : j < news.length := (List.getElem?_eq_some_iff.1 hu).1
        obtain ⟨b', o', h', hc⟩ := hread (by rcases Nat.eq_zero_or_pos m with h0 | h0; · subst h0; simp at hl; simp [hl] at hj
                                             · exact h0)
        injection h' with h'
        subst h'
        have := hc j (by omega)
        rw [hu] at this
        have e : (⟨b', o', none⟩ : Addr).add j = ⟨b', o' + j, none⟩ := by unfold Addr.add; split <;> simp_all
        rwa [e]
      obtain ⟨v1, w1, hr, h2, h3, _, h5⟩ := run_append_own_at (P := P) W base t o.type e i0 z size bytes ht hi hz0 hz1 hz2 hz hsz v n xs HO ad m c news hl hcells h1 (by simp only [maxLen]; omega) hbytes hbase
      exact ⟨v1, w1, hr, h2, h3, h5⟩
  obtain ⟨v1, w1, hr, hown, hg, hat⟩ := hrun
  refine wpList_plain hgd fun K hK => ?_
  unfold Oper.wp execOp
  simp only [ho, resolve, invoke, builtin, Sem.run_bind, Sem.run_pure, Result.andThen_ok, List.map_toArray, List.map_cons, List.map_nil, hs, hx, hr]
  exact hK _ _ (h v1 w1 hown hg hat)
theorem app_one {W : World} (base : Nat) (hgd : o.guard = none) (s x : Operand) (t e : TypeId) (z : Value) (size bytes : Nat)
    (ho : o.op = .call { callee := .builtin .append, args := #[s, x], argTypes := #[t, t] })
    (ht : P.underlying t = some (.slice e)) (hinfo : (P.info? e).map (fun i => (i.zero, i.size, i.bytes)) = some (some z, size, bytes)) (hz : z.cells.size = size) (hsz : 0 < size) (hb0 : 0 < bytes)
    (v : Value) (n : Nat) (xs : List Value) (ys : Array Value) (hs : a.eval s = v) (HO : W.ownsRow base e size v n xs)
    (hx : a.eval x = .slice (some ⟨W.heap.size, 0, none⟩) 1 1) (hl : ys.toList.length = size) (h1 : ∀ u ∈ ys.toList, u.oneCell' = true)
    (hbytes : (n + 1) * bytes ≤ 140737488355328) (hbase : base ≤ W.heap.size)
    (h : ∀ v1 w1, w1.ownsRow base e size v1 (n + 1) (xs ++ ys.toList) → W.grownBy w1 v.ownBlock → (v1.ownBlock = v.ownBlock ∨ ∃ b, v1.ownBlock = some b ∧ W.heap.size ≤ b) → wpList P ops Q rest (a.put o.dst v1) w1) :
    wpList P ops Q (o :: rest) a (W.alloc (.cells ys e)) := by
  refine app_src base hgd s x t e z size bytes ho ht hinfo hz hsz hb0 v n xs hs (HO.alloc _) (some ⟨W.heap.size, 0, none⟩) 1 1 ys.toList hx (by omega)
    (fun _ => ⟨_, _, rfl, fun j hj => by rw [cell_of_heap (heap_alloc_new W _), Nat.zero_add]; simp⟩) (.inr ⟨_, rfl⟩) h1 hbytes (by simp; omega) fun v1 w1 hown hg hat => h v1 w1 hown (gb_trans (gb_alloc _ _ _) hg) ?_
  rcases hat with hat | hat
  · exact .inl hat
  · exact .inr ⟨_, hat, by simp⟩
end

end Go.Proofs.YtmfmfpmkgmkgiaaGreatDoor

namespace Go.Proofs.YtmfmfpmkgmkgiaaGreatDoor
open Go.RowKit

theorem sg_of (z : Int) (neg : Bool) (h : decide (z < 0) = neg) : sg neg z.natAbs = z := by subst h; exact sg_self z

set_option maxRecDepth 100000 in
set_option maxHeartbeats 40000000 in
theorem Add_calls (w : World) (bz bx ox by' oy : Nat) (z x y : Int) (hz : IntB w bz z) (hx : IntAt w bx ox x) (hy : IntAt w by' oy y) (lx : lim x ≤ 1099511627776) (ly : lim y ≤ 1099511627776) :
    Calls Tryz.prog 59 #[.pointer (some ⟨bz, 0, none⟩), .pointer (some ⟨bx, ox, none⟩), .pointer (some ⟨by', oy, none⟩)] w fun e w' => e = .returned (.pointer (some ⟨bz, 0, none⟩)) ∧ IntB w' bz (x + y) ∧ w.grownBy w' (some bz) := by
  obtain ⟨vy, c0, c1, hn⟩ := hy
  generalize hneg : decide (y < 0) = neg at *
  have HN := Lib.hid hneg
  clear hneg
  go_enter Tryz.func59, Tryz.ntmps59
  go_wp2
  go_still_tail 10, (by kernel_rfl)
  change wpList _ _ _ _ _ w.drew
  go_wp2_with fail
  refine (sum_calls _ bz bx ox z x neg vy y.natAbs hz.drew hx.drew hn.drew lx ly).mono ?_
  rintro e w2 ⟨rfl, hi, hg⟩
  go_wp2
  go_ret
  rw [sg_of y neg HN.out] at hi
  exact ⟨rfl, hi, gb_of_drew hg⟩

set_option maxRecDepth 100000 in
set_option maxHeartbeats 40000000 in
theorem Neg_calls (w : World) (bz bx ox : Nat) (z x : Int) (hz : IntB w bz z) (hx : IntAt w bx ox x) :
    Calls Tryz.prog 234 #[.pointer (some ⟨bz, 0, none⟩), .pointer (some ⟨bx, ox, none⟩)] w fun e w' => e = .returned (.pointer (some ⟨bz, 0, none⟩)) ∧ IntB w' bz (-x) ∧ w.grownBy w' (some bz) := by
  obtain ⟨vy, c0, c1, hn⟩ := hx
  generalize hneg : decide (x < 0) = neg at *
  have HN := Lib.hid hneg
  clear hneg
  go_enter Tryz.func234, Tryz.ntmps234
  go_wp2
  go_still_tail 10, (by kernel_rfl)
  change wpList _ _ _ _ _ w.drew
  go_wp2_with fail
  refine (set_calls _ bz z (!neg) vy (digs x) hz.drew hn.drew).mono ?_
  rintro e w2 ⟨rfl, hi, hg⟩
  go_wp2
  go_ret
  have : sg (!neg) (val 4294967296 (digs x)) = -x := by
    rw [val_digs, ← HN.out]; unfold sg; by_cases h : x < 0 <;> simp [h] <;> omega
  rw [this] at hi
  exact ⟨rfl, hi, gb_of_drew hg⟩

set_option maxHeartbeats 40000000 in
theorem Abs_calls (w : World) (bz bx ox : Nat) (z x : Int) (hz : IntB w bz z) (hx : IntAt w bx ox x) :
    Calls Tryz.prog 220 #[.pointer (some ⟨bz, 0, none⟩), .pointer (some ⟨bx, ox, none⟩)] w fun e w' => e = .returned (.pointer (some ⟨bz, 0, none⟩)) ∧ IntB w' bz x.natAbs ∧ w.grownBy w' (some bz) := by
  obtain ⟨vy, c0, c1, hn⟩ := hx
  go_enter Tryz.func220, Tryz.ntmps220
  go_wp2_with fail
  refine (set_calls _ bz z false vy (digs x) hz hn).mono ?_
  rintro e w2 ⟨rfl, hi, hg⟩
  go_wp2
  go_ret
  rw [val_digs] at hi
  exact ⟨rfl, hi, hg⟩

/-! ### small readings -/
set_option maxHeartbeats 40000000 in
theorem Sign_calls (w : World) (bx ox : Nat) (x : Int) (hx : IntAt w bx ox x) :
    Calls Tryz.prog 118 #[.pointer (some ⟨bx, ox, none⟩)] w fun e w' => e = .returned (.int .i64 x.sign) ∧ w = w' := by
  obtain ⟨vy, c0, c1, hn⟩ := hx
  obtain ⟨A, c, rfl, _, _⟩ := hn.form
  have hl : Hid ((digs x).length = 0 ↔ x = 0) := Lib.hid (lim_zero x)
  have hb : (digs x).length ≤ 9223372036854775807 := by omega
  generalize (digs x).length = n at *
  have hcase : x = 0 ∨ x < 0 ∨ 0 < x := by omega
  rcases hcase with h0 | h0 | h0
  · subst h0
    obtain rfl : n = 0 := hl.out.2 rfl
    clear hl hn
    simp only [Int.lt_irrefl, decide_false] at c0
    go_enter Tryz.func118, Tryz.ntmps118
    go_wp2
    go_ret
    exact ⟨rfl, rfl⟩
  · have t : ((n : Int) == 0) = false := by have := hl.out; simp; omega
    rw [decide_eq_true h0] at c0
    rw [Int.sign_eq_neg_one_of_neg h0]
    clear hl hn h0
    go_enter Tryz.func118, Tryz.ntmps118
    go_wp2
    go_ret
    exact ⟨rfl, rfl⟩
  · have t : ((n : Int) == 0) = false := by have := hl.out; simp; omega
    rw [decide_eq_false (by omega)] at c0
    rw [Int.sign_eq_one_of_pos h0]
    clear hl hn h0
    go_enter Tryz.func118, Tryz.ntmps118
    go_wp2
    go_ret
    exact ⟨rfl, rfl⟩

set_option maxHeartbeats 40000000 in
theorem Limbs_calls (w : World) (bx ox : Nat) (x : Int) (hx : IntAt w bx ox x) :
    Calls Tryz.prog 117 #[.pointer (some ⟨bx, ox, none⟩)] w fun e w' => e = .returned (.int .i64 (lim x)) ∧ w = w' := by
  obtain ⟨vy, c0, c1, hn⟩ := hx
  obtain ⟨A, c, rfl, _, _⟩ := hn.form
  unfold lim
  have hb : (digs x).length ≤ 9223372036854775807 := by omega
  go_enter Tryz.func117, Tryz.ntmps117
  go_wp2
  go_ret
  exact ⟨rfl, rfl⟩

theorem digs_mod (x : Int) : x ≠ 0 → ∃ r, digs x = x.natAbs % 4294967296 :: r := by
  intro h
  exact ⟨_, by unfold digs; rw [dig_pos _ _ (by omega) (by omega)]⟩

set_option maxHeartbeats 40000000 in
theorem Odd_calls (w : World) (bx ox : Nat) (x : Int) (hx : IntAt w bx ox x) :
    Calls Tryz.prog 222 #[.pointer (some ⟨bx, ox, none⟩)] w fun e w' => e = .returned (.bool (decide (x.natAbs % 2 = 1))) ∧ w = w' := by
  obtain ⟨vy, c0, c1, hn⟩ := hx
  by_cases h0 : x = 0
  · obtain ⟨A, c, rfl, _, _⟩ := hn.form
    subst h0
    simp only [digs_zero, List.length_nil] at c1
    go_enter Tryz.func222, Tryz.ntmps222
    go_wp2
    go_ret
    exact ⟨rfl, rfl⟩
  · obtain ⟨r, hr⟩ := digs_mod x h0
    rw [hr] at hn
    obtain ⟨A, c, rfl, h1, h2, hread⟩ := hn.read
    obtain ⟨b, o, rfl, hc⟩ := hread (by simp)
    have hc0 := hc 0 (by simp)
    clear hc hread
    simp only [List.getElem?_cons_zero, Option.getD_some, Nat.add_zero] at hc0
    have hpos : 0 < (x.natAbs % 4294967296 :: r).length := by simp
    have hm : Hid (x.natAbs % 4294967296 % 2 = x.natAbs % 2) := Lib.hid (by omega)
    generalize (x.natAbs % 4294967296 :: r).length = n at *
    have hdlt : x.natAbs % 4294967296 < 4294967296 := Nat.mod_lt _ (by omega)
    generalize x.natAbs % 4294967296 = d at *
    clear hn hr h0
    go_enter Tryz.func222, Tryz.ntmps222
    go_wp2
    go_ret
    refine ⟨ret_bool ?_, rfl⟩
    have e := u32_and_nat d 1 (by omega) (by omega)
    rw [show bits BinOp.and IntKind.u32 (↑d) 1 = ((d &&& 1 : Nat) : Int) from e, Nat.and_one_is_mod, hm.out, Bool.eq_iff_iff]
    simp
    omega

set_option maxHeartbeats 40000000 in
theorem Words_calls (w : World) (bx ox : Nat) (x : Int) (hx : IntAt w bx ox x) (lx : lim x ≤ 1099511627776) :
    Calls Tryz.prog 119 #[.pointer (some ⟨bx, ox, none⟩)] w fun e w' => ∃ v, e = .returned v ∧ Nums w' v (digs x) ∧ From w.heap.size v ∧ w.grownBy w' none := by
  obtain ⟨vy, c0, c1, hn⟩ := hx
  have lx' : (digs x).length ≤ 1099511627776 := lx
  obtain ⟨A, c, rfl, h1, h2, hread⟩ := hn.read
  have c1' := gb_cell (gb_alloc w (.cells #[] 56) none) c1 (by simp)
  go_enter Tryz.func119, Tryz.ntmps119
  go_wp2_with (at_builtin; refine app_src w.heap.size rfl _ _ 47 56 (.int .u32 0) 1 4 rfl Tryz.underlying47 u32info rfl (by omega) (by omega) _ 0 [] rfl (World.ownsRow_lit w #[] 0 (Nat.le_refl _) (by decide) rfl) A (digs x).length c (u32s (digs x)) rfl (by simp [u32s]) ?c1 hn.addr (by simp [u32s, Value.oneCell']) (by omega) (by simp) ?_)
  case c1 =>
    intro hp
    obtain ⟨b, o, rfl, hc⟩ := hread hp
    refine ⟨b, o, rfl, fun j hj => ?_⟩
    rw [u32s_get _ _ (by omega)]
    exact gb_cell (gb_alloc w _ none) (hc j (by omega)) (by simp)
  intro v1 w1 hown hg hat
  go_wp2
  go_ret
  exact ⟨_, rfl, ⟨own_row hown, digs_lt x⟩, own_from hown, gb_new (gb_alloc w _ none) hg (Nat.le_refl _)⟩
theorem two_limbs (u : Nat) (hu : u < 18446744073709551616) : val 4294967296 [u % 4294967296, u / 4294967296 % 4294967296] = u := by
  simp only [val]; omega
theorem lit_nums (w : World) (e : TypeId) (a b : Nat) (x y : Int) (hx : x = (a : Int)) (hy : y = (b : Int)) (ha : a < 4294967296) (hb : b < 4294967296) : Nums (w.alloc (.cells #[.int .u32 x, .int .u32 y] e)) (.slice (some ⟨w.heap.size, 0, none⟩) 2 2) [a, b] := by
  subst hx hy
  refine Nums.mk rfl (by simp) (by omega) (fun i hi => ?_) (by simp; omega)
  rw [cell_of_heap (heap_alloc_new w _)]
  match i, hi with
  | 0, _ => rfl
  | 1, _ => rfl

set_option maxHeartbeats 40000000 in
theorem NewInt_calls (w : World) (v : Int) (h1 : -9223372036854775808 ≤ v) (h2 : v ≤ 9223372036854775807) :
    Calls Tryz.prog 61 #[.int .i64 v] w fun e w' => ∃ b, e = .returned (.pointer (some ⟨b, 0, none⟩)) ∧ IntB w' b v ∧ w.heap.size ≤ b ∧ w.grownBy w' none := by
  by_cases hn : v < 0
  · have ht : decide (v < 0) = true := by simp [hn]
    go_enter Tryz.func61, Tryz.ntmps61
    go_wp2_with fail
    have hl := lit_nums w 56 (v.natAbs % 4294967296) (v.natAbs / 4294967296 % 4294967296) (IntKind.u64.wrap (-IntKind.u64.wrap v) % 4294967296) (IntKind.u64.wrap (-IntKind.u64.wrap v) / 4294967296 % 4294967296)
      (by rw [u64_wrap, u64_wrap]; omega) (by rw [u64_wrap, u64_wrap]; omega) (by omega) (by omega)
    refine (trim_calls _ _ _ hl).mono ?_
    rintro e w1 ⟨v', rfl, hv, rfl⟩
    obtain ⟨A, c, rfl, _, _⟩ := hv.form
    clear hl
    go_wp2
    go_ret
    rw [two_limbs v.natAbs (by omega)] at hv ⊢
    refine ⟨_, rfl, ⟨_, 141, by rw [ht]; exact heap_new _ (by simp), hv.more (gb_alloc _ _ _)⟩, by simp, gb_trans (gb_alloc _ _ _) (gb_alloc _ _ _)⟩
  · have ht : decide (v < 0) = false := by simp; omega
    go_enter Tryz.func61, Tryz.ntmps61
    go_wp2_with fail
    have hl := lit_nums w 56 (v.natAbs % 4294967296) (v.natAbs / 4294967296 % 4294967296) (v % 4294967296) (v / 4294967296) (by omega) (by omega) (by omega) (by omega)
    refine (trim_calls _ _ _ hl).mono ?_
    rintro e w1 ⟨v', rfl, hv, rfl⟩
    obtain ⟨A, c, rfl, _, _⟩ := hv.form
    clear hl
    go_wp2
    go_ret
    rw [two_limbs v.natAbs (by omega)] at hv ⊢
    refine ⟨_, rfl, ⟨_, 141, by rw [ht]; exact heap_new _ (by simp), hv.more (gb_alloc _ _ _)⟩, by simp, gb_trans (gb_alloc _ _ _) (gb_alloc _ _ _)⟩

end Go.Proofs.YtmfmfpmkgmkgiaaGreatDoor

namespace Go.Proofs.YtmfmfpmkgmkgiaaGreatDoor
open Go.RowKit

set_option maxHeartbeats 40000000 in
theorem Of_calls (w : World) (neg : Bool) (v : Value) (xs : List Nat) (hx : Nums w v xs) (lx : xs.length ≤ 1099511627776) :
    Calls Tryz.prog 113 #[.bool neg, v] w fun e w' => ∃ b, e = .returned (.pointer (some ⟨b, 0, none⟩)) ∧ IntB w' b (sg neg (val 4294967296 xs)) ∧ w.heap.size ≤ b ∧ w.grownBy w' none := by
  obtain ⟨A, c, rfl, h1, h2, hread⟩ := hx.read
  cases neg
  all_goals
    go_enter Tryz.func113, Tryz.ntmps113
    go_wp2_with (at_builtin; refine app_src w.heap.size rfl _ _ 47 56 (.int .u32 0) 1 4 rfl Tryz.underlying47 u32info rfl (by omega) (by omega) _ 0 [] rfl (World.ownsRow_lit w #[] 0 (Nat.le_refl _) (by decide) rfl) A xs.length c (u32s xs) rfl (by simp [u32s]) ?c1 hx.addr (by simp [u32s, Value.oneCell']) (by omega) (by simp) ?_)
    case c1 =>
      intro hp
      obtain ⟨b, o, rfl, hc⟩ := hread hp
      refine ⟨b, o, rfl, fun j hj => ?_⟩
      rw [u32s_get _ _ (by omega)]
      exact gb_cell (gb_alloc w _ none) (hc j (by omega)) (by simp)
    intro v1 w1 hown hg _
    have hn : Nums w1 v1 xs := ⟨own_row hown, hx.2⟩
    have hgg : w.grownBy w1 none := gb_new (gb_alloc w _ none) hg (Nat.le_refl _)
    clear hown hg hread
    go_wp2_with fail
    refine (trim_calls _ _ _ hn).mono ?_
    rintro e w2 ⟨v', rfl, hv, rfl⟩
    obtain ⟨A', c', rfl, _, _⟩ := hv.form
    clear hn
    go_wp2
    go_ret
    have hz : decide (0 < (dig 4294967296 (val 4294967296 xs)).length) = decide (val 4294967296 xs ≠ 0) := by
      have := dig_len_zero 4294967296 (by omega) (val 4294967296 xs)
      rw [decide_eq_decide]; omega
    refine ⟨_, rfl, ⟨.slice A' (dig 4294967296 (val 4294967296 xs)).length c', 141, ?_, ?_⟩, hgg.size, ?_⟩
    · rw [sg_neg, ← hz]
      first | exact heap_new _ rfl | (rw [heap_set (heap_new _ rfl)]; rfl) | trace_state
    · rw [digs_sg]
      first | exact hv.more (gb_alloc _ _ _) | exact hv.more (gb_new (gb_alloc _ _ _) (gb_set _ _ _ _) (Nat.le_refl _))
    · first | exact gb_trans hgg (gb_alloc _ _ _) | exact gb_trans hgg (gb_new (gb_alloc _ _ _) (gb_set _ _ _ _) (Nat.le_refl _))

/-! ### Mul -/
theorem mul_step {os : List Nat} {p i j a y c V W : Nat} (hp : p = i + j) (hlt : p < os.length) (h : val 4294967296 os + 4294967296 ^ p * c = V + 4294967296 ^ i * (a * W)) :
    val 4294967296 (os.set p ((a * y + os[p]?.getD 0 + c) % 4294967296)) + 4294967296 ^ (p + 1) * ((a * y + os[p]?.getD 0 + c) / 4294967296) = V + 4294967296 ^ i * (a * (W + 4294967296 ^ j * y)) := by
  have e := val_set 4294967296 os p ((a * y + os[p]?.getD 0 + c) % 4294967296) hlt
  have d := Nat.mod_add_div (a * y + os[p]?.getD 0 + c) 4294967296
  have hpp : 4294967296 ^ p = 4294967296 ^ i * 4294967296 ^ j := by rw [hp, Nat.pow_add]
  generalize (a * y + os[p]?.getD 0 + c) % 4294967296 = r at *
  generalize (a * y + os[p]?.getD 0 + c) / 4294967296 = q at *
  generalize os[p]?.getD 0 = u at *
  rw [Nat.pow_succ]
  generalize val 4294967296 (os.set p r) = s at *
  generalize val 4294967296 os = t at *
  have d2 : 4294967296 ^ p * r + 4294967296 ^ p * 4294967296 * q = 4294967296 ^ p * (a * y) + 4294967296 ^ p * u + 4294967296 ^ p * c := by
    have : 4294967296 ^ p * (r + 4294967296 * q) = 4294967296 ^ p * (a * y + u + c) := by rw [d]
    grind
  have d3 : 4294967296 ^ p * (a * y) = 4294967296 ^ i * (a * (4294967296 ^ j * y)) := by rw [hpp]; grind
  have d4 : 4294967296 ^ i * (a * (W + 4294967296 ^ j * y)) = 4294967296 ^ i * (a * W) + 4294967296 ^ i * (a * (4294967296 ^ j * y)) := by grind
  rw [d4, ← d3]
  omega
theorem mul_small {a y u c : Nat} (ha : a < 4294967296) (hy : y < 4294967296) (hu : u < 4294967296) (hc : c < 4294967296) : a * y + u + c ≤ 18446744073709551615 := by
  have : a * y ≤ 4294967295 * 4294967295 := Nat.mul_le_mul (by omega) (by omega)
  omega
theorem mul_inner {os xs ys : List Nat} {k j x' y' u cy : Nat}
    (h : os.length = xs.length + ys.length ∧ (∀ d ∈ os, d < 4294967296) ∧ (∀ p, k + ys.length ≤ p → os[p]?.getD 0 = 0) ∧ val 4294967296 os + 4294967296 ^ (k + j) * cy = val 4294967296 (xs.take k) * val 4294967296 ys + 4294967296 ^ k * (x' * val 4294967296 (ys.take j)))
    (hk : k < xs.length) (hj : j < ys.length) (hy : ys[j]?.getD 0 = y') (hu : os[k + j]?.getD 0 = u) :
    let r := os.set (k + j) ((x' * y' + u + cy) % 4294967296)
    r.length = xs.length + ys.length ∧ (∀ d ∈ r, d < 4294967296) ∧ (∀ p, k + ys.length ≤ p → r[p]?.getD 0 = 0) ∧ val 4294967296 r + 4294967296 ^ (k + (j + 1)) * ((x' * y' + u + cy) / 4294967296) = val 4294967296 (xs.take k) * val 4294967296 ys + 4294967296 ^ k * (x' * val 4294967296 (ys.take (j + 1))) := by
  obtain ⟨h1, h2, h3, h4⟩ := h
  refine ⟨by simpa using h1, set_lt h2 _ _ (Nat.mod_lt _ (by omega)), fun p hp => by rw [List.getElem?_set_ne (by omega)]; exact h3 p hp, ?_⟩
  have := mul_step (j := j) (y := y') rfl (by omega) h4
  rw [hu] at this
  rw [val_take_succ, List.getD_eq_getElem?_getD, hy]
  exact this
theorem mul_outer {os xs ys : List Nat} {k x' cy : Nat}
    (h : os.length = xs.length + ys.length ∧ (∀ d ∈ os, d < 4294967296) ∧ (∀ p, k + ys.length ≤ p → os[p]?.getD 0 = 0) ∧ val 4294967296 os + 4294967296 ^ (k + ys.length) * cy = val 4294967296 (xs.take k) * val 4294967296 ys + 4294967296 ^ k * (x' * val 4294967296 (ys.take ys.length)))
    (hk : k < xs.length) (hc : cy < 4294967296) (hx : xs[k]?.getD 0 = x') :
    let r := os.set (k + ys.length) cy
    r.length = xs.length + ys.length ∧ (∀ d ∈ r, d < 4294967296) ∧ (∀ p, k + 1 + ys.length ≤ p → r[p]?.getD 0 = 0) ∧ val 4294967296 r = val 4294967296 (xs.take (k + 1)) * val 4294967296 ys := by
  obtain ⟨h1, h2, h3, h4⟩ := h
  refine ⟨by simpa using h1, set_lt h2 _ _ hc, fun p hp => by rw [List.getElem?_set_ne (by omega)]; exact h3 p (by omega), ?_⟩
  have := val_set 4294967296 os (k + ys.length) cy (by omega)
  rw [h3 _ (Nat.le_refl _)] at this
  rw [List.take_length] at h4
  rw [val_take_succ, List.getD_eq_getElem?_getD, hx]
  show val 4294967296 (os.set (k + ys.length) cy) = _
  have e : (val 4294967296 (xs.take k) + 4294967296 ^ k * x') * val 4294967296 ys = val 4294967296 (xs.take k) * val 4294967296 ys + 4294967296 ^ k * (x' * val 4294967296 ys) := by grind
  omega

set_option maxRecDepth 100000 in
set_option maxHeartbeats 40000000 in
theorem Mul_calls (w : World) (bz bx ox by' oy : Nat) (z x y : Int) (hz : IntB w bz z) (hx : IntAt w bx ox x) (hy : IntAt w by' oy y) (lx : lim x ≤ 1099511627776) (ly : lim y ≤ 1099511627776) :
    Calls Tryz.prog 60 #[.pointer (some ⟨bz, 0, none⟩), .pointer (some ⟨bx, ox, none⟩), .pointer (some ⟨by', oy, none⟩)] w fun e w' => e = .returned (.pointer (some ⟨bz, 0, none⟩)) ∧ IntB w' bz (x * y) ∧ w.grownBy w' (some bz) := by
  obtain ⟨vx, c0, c1, hnx⟩ := hx
  obtain ⟨vy, d0, d1, hny⟩ := hy
  have bxs := hnx.lt
  have bys := hny.lt
  have HX : Hid (sg (decide (x < 0)) (val 4294967296 (digs x)) = x) := Lib.hid (by rw [val_digs]; exact sg_self x)
  have HY : Hid (sg (decide (y < 0)) (val 4294967296 (digs y)) = y) := Lib.hid (by rw [val_digs]; exact sg_self y)
  have lx' : (digs x).length ≤ 1099511627776 := lx
  have ly' : (digs y).length ≤ 1099511627776 := ly
  generalize digs x = xs at *
  generalize digs y = ys at *
  generalize decide (x < 0) = nx at *
  generalize decide (y < 0) = ny at *
  clear lx ly
  obtain ⟨A, c, rfl, h1, h2, hA⟩ := hnx.read
  obtain ⟨A', c', rfl, h1', h2', hA'⟩ := hny.read
  have hmk := make_u32 (P := Tryz.prog) 47 56 Tryz.underlying47 u32info (xs.length + ys.length) (by omega) ((xs.length : Int) + (ys.length : Int)) (by omega)
  go_enter Tryz.func60, Tryz.ntmps60
  go_wp2
  have hs : IntKind.i64.wrap ((xs.length : Int) + (ys.length : Int)) = (xs.length : Int) + (ys.length : Int) := IntWalk.i64_in _ (by omega)
  go_still_tail 11, (by kernel_rfl)
  clear hs
  change wpList _ _ _ _ _ w.drew
  have g0 : w.grownBy w.drew none := gb_drew w _
  generalize w.drew = wd at *
  have g1 : w.grownBy (wd.alloc (zblock (xs.length + ys.length) 56)) none := gb_trans g0 (gb_alloc _ _ _)
  have e1 := gb_cell g1 c1 (by simp)
  have ge : w.heap.size ≤ wd.heap.size := g0.size
  go_wp2
  go_loopw [31] (fun i wr => ∃ (k : Nat) (os : List Nat), k ≤ xs.length ∧ i = .int .i64 k ∧ w.grownBy wr none ∧ OwnNums wr wd.heap.size os ∧
      Hid (os.length = xs.length + ys.length ∧ (∀ d ∈ os, d < 4294967296) ∧ (∀ p, k + ys.length ≤ p → os[p]?.getD 0 = 0) ∧ val 4294967296 os = val 4294967296 (xs.take k) * val 4294967296 ys)) (fun i _ => xs.length - (intOf i).toNat)
  case atStart => exact ⟨0, _, by omega, rfl, g1, OwnNums.made _ _ _, by simp, by simp, fun p _ => by simp [List.getElem?_replicate]; split <;> rfl, by simp [val, val_zeros]⟩
  case round =>
    obtain ⟨k, os, hk, rfl, hg, ho, hv⟩ := hrel
    clear hmk e1 g1
    by_cases hlt : k < xs.length
    · obtain ⟨b, o, rfl, hc⟩ := hA (by omega)
      have q1 := gb_cell hg (hc k hlt) (by simp)
      have q2 := gb_cell hg d1 (by simp)
      have b1 := bxs k
      clear hc hA bxs
      generalize hxk : xs[k]?.getD 0 = x' at q1 b1
      have HXK := Lib.hid hxk
      clear hxk
      go_wp2
      obtain ⟨wo, rfl⟩ : ∃ wo : World, wo = wr := ⟨_, rfl⟩
      go_loopw [10, 41] (fun cv jv wr => ∃ (j cy : Nat) (os : List Nat), j ≤ ys.length ∧ jv = .int .i64 j ∧ cv = .int .u64 cy ∧ cy < 4294967296 ∧ w.grownBy wr none ∧ OwnNums wr wd.heap.size os ∧
        Hid (os.length = xs.length + ys.length ∧ (∀ d ∈ os, d < 4294967296) ∧ (∀ p, k + ys.length ≤ p → os[p]?.getD 0 = 0) ∧ val 4294967296 os + 4294967296 ^ (k + j) * cy = val 4294967296 (xs.take k) * val 4294967296 ys + 4294967296 ^ k * (x' * val 4294967296 (ys.take j)))) (fun _ jv _ => ys.length - (intOf jv).toNat)
      case atStart => exact ⟨0, 0, os, by omega, rfl, rfl, by omega, hg, ho, hv.out.1, hv.out.2.1, hv.out.2.2.1, by simp [val]; exact hv.out.2.2.2⟩
      case round =>
        clear ho hv hg q1 q2
        obtain ⟨j, cy, os, hj, rfl, rfl, hcy, hg, ho, hv⟩ := hrel
        by_cases hjt : j < ys.length
        · obtain ⟨b', o', rfl, hc'⟩ := hA' (by omega)
          have q1 := gb_cell hg (hc' j hjt) (by simp)
          have q3 := ho.cell (k + j) (by rw [hv.out.1]; omega)
          have q4 := ho.free (k + j)
          have b2 := bys j
          have b3 := getD_lt (B := 4294967296) (by omega) hv.out.2.1 (k + j)
          rw [List.getD_eq_getElem?_getD] at b3
          clear hc' hA' bys
          generalize hyk : ys[j]?.getD 0 = y' at q1 b2
          generalize huk : os[k + j]?.getD 0 = u at q3 b3
          have HYK := Lib.hid hyk
          have HUK := Lib.hid huk
          clear hyk huk
          have b4 : (0 : Int) ≤ (x' : Int) * (y' : Int) := by have := Int.natCast_nonneg (x' * y'); rwa [Int.natCast_mul] at this
          have b5 : (x' : Int) * (y' : Int) ≤ 18446744065119617025 := by
            have : x' * y' ≤ 4294967295 * 4294967295 := Nat.mul_le_mul (by omega) (by omega)
            rw [← Int.natCast_mul]; omega
          go_wp2
          refine ⟨⟨j + 1, (x' * y' + u + cy) / 4294967296, _, by omega, by go_num, num_eq (by rw [← Int.natCast_mul]; omega), ?_, gb_new hg (gb_set _ _ _ _) ge, ho.set' (k + j) ((x' * y' + u + cy) % 4294967296) _ (by rw [← Int.natCast_mul]; omega), Lib.hid (mul_inner hv.out hlt hjt HYK.out HUK.out)⟩, by simp [intOf]; omega⟩
          have := mul_small b1 b2 b3 hcy
          generalize x' * y' = t at *
          omega
        · obtain rfl : j = ys.length := by omega
          have q2 := gb_cell hg d1 (by simp)
          have q3 := ho.cell (k + ys.length) (by rw [hv.out.1]; omega)
          have q4 := ho.free (k + ys.length)
          clear hA' bys
          go_wp2
          exact ⟨⟨k + 1, _, by omega, by go_num, gb_new hg (gb_set _ _ _ _) ge, ho.set' (k + ys.length) cy _ rfl, Lib.hid (mul_outer hv.out hlt hcy HXK.out)⟩, by simp [intOf]; omega⟩
    · obtain rfl : k = xs.length := by omega
      have q1 := gb_cell hg c0 (by simp)
      have q2 := gb_cell hg d0 (by simp)
      clear hA hA' bxs bys
      go_wp2
      go_still_tail 11, (by kernel_rfl)
      change wpList _ _ _ _ _ wr.drew
      go_wp2_with fail
      obtain ⟨v1, v2, _, v4⟩ := hv.out
      have hn := ho.nums v2 (n := xs.length + ys.length) (c := xs.length + ys.length) v1.symm (by omega) (by omega)
      refine (set_calls _ bz z (nx != ny) _ os (hz.more (gb_trans hg (gb_drew _ _))) hn.drew).mono ?_
      rintro e w2 ⟨rfl, hi, hg2⟩
      go_wp2
      go_ret
      rw [v4, List.take_length] at hi
      have : sg (nx != ny) (val 4294967296 xs * val 4294967296 ys) = x * y := by
        rw [← HX.out, ← HY.out]; unfold sg; cases nx <;> cases ny <;> simp <;> grind
      rw [this] at hi
      exact ⟨rfl, hi, gb_trans (gb_none (gb_trans hg (gb_drew _ _))) hg2⟩

end Go.Proofs.YtmfmfpmkgmkgiaaGreatDoor
