/- Contracts of the program's functions, and what they rest on: BigF BigG BigH. -/
import Derived.Test.YtmfmfpmkgmkgiaaGreatDoorMab
set_option linter.unusedVariables false
set_option linter.unusedSimpArgs false
namespace Go.Proofs.YtmfmfpmkgmkgiaaGreatDoor
open Go.RowKit

theorem short_step {xs q : List Nat} {k d x r : Nat} (hd : 0 < d) (hk : k < xs.length) (hx : xs[k]?.getD 0 = x)
    (h : q.length = xs.length ∧ (∀ e ∈ q, e < 4294967296) ∧ val 4294967296 (q.drop (k + 1)) = val 4294967296 (xs.drop (k + 1)) / d ∧ r = val 4294967296 (xs.drop (k + 1)) % d) (hd2 : d < 4294967296) (hx2 : x < 4294967296) :
    (q.set k ((r * 4294967296 + x) / d)).length = xs.length ∧ (∀ e ∈ q.set k ((r * 4294967296 + x) / d), e < 4294967296) ∧
      val 4294967296 ((q.set k ((r * 4294967296 + x) / d)).drop k) = val 4294967296 (xs.drop k) / d ∧ (r * 4294967296 + x) % d = val 4294967296 (xs.drop k) % d := by
  obtain ⟨h1, h2, h3, h4⟩ := h
  have hr : r < d := by rw [h4]; exact Nat.mod_lt _ hd
  have hq : (r * 4294967296 + x) / d < 4294967296 := by
    rw [Nat.div_lt_iff_lt_mul hd]
    have : (r + 1) * 4294967296 ≤ d * 4294967296 := Nat.mul_le_mul_right _ hr
    omega
  have e1 : val 4294967296 (xs.drop k) = (r * 4294967296 + x) + d * (4294967296 * (val 4294967296 (xs.drop (k + 1)) / d)) := by
    rw [val_drop _ _ _ hk, hx, h4]
    have := Nat.mod_add_div (val 4294967296 (xs.drop (k + 1))) d
    generalize val 4294967296 (xs.drop (k + 1)) % d = r' at *
    generalize val 4294967296 (xs.drop (k + 1)) / d = q' at *
    rw [← this]
    grind
  refine ⟨by simpa using h1, set_lt h2 _ _ hq, ?_, ?_⟩
  · rw [val_set_drop _ _ _ _ (by omega), h3, e1, Nat.add_mul_div_left _ _ hd]
  · rw [e1, Nat.add_mul_mod_self_left]

theorem or_add (r x : Nat) (hr : r < 4294967296) (hx : x < 4294967296) : bits .or .u64 ((r : Int) * 4294967296) (x : Int) = ((r * 4294967296 + x : Nat) : Int) := by
  rw [show (r : Int) * 4294967296 = ((r * 4294967296 : Nat) : Int) by omega]
  rw [bits_or_u64_nat _ _ (by omega) (by omega)]
  have := Nat.two_pow_add_eq_or_of_lt (i := 32) (by simpa using hx) r
  rw [Nat.mul_comm r 4294967296]
  exact congrArg (fun n : Nat => (n : Int)) this.symm

set_option maxHeartbeats 40000000 in
theorem short_calls (w : World) (v1 : Value) (xs : List Nat) (d : Nat) (hx : Nums w v1 xs) (hl : xs.length ≤ 1099511627776) (hd : 0 < d) (hd2 : d < 4294967296) :
    Calls Tryz.prog 194 #[v1, .int .u32 d] w fun e w' => ∃ v q, e = .returned (.tuple #[v, .int .u32 (val 4294967296 xs % d : Nat)]) ∧ Nums w' v q ∧ val 4294967296 q = val 4294967296 xs / d ∧ q.length = xs.length ∧ w.grownBy w' none := by
  have bx := hx.lt
  obtain ⟨A, c, rfl, h1, h2, hA⟩ := hx.read
  have hmk := make_u32 (P := Tryz.prog) 47 56 Tryz.underlying47 u32info xs.length (by omega) (xs.length : Int) rfl
  have t : ((d : Int) == 0) = false := by simp; omega
  go_enter Tryz.func194, Tryz.ntmps194
  go_wp2
  go_loopw [7, 8] (fun rv i wr => ∃ (k r : Nat) (os : List Nat), k ≤ xs.length ∧ i = .int .i64 ((k : Int) - 1) ∧ rv = .int .u64 r ∧ r < d ∧ w.grownBy wr none ∧ OwnNums wr w.heap.size os ∧
      Hid (os.length = xs.length ∧ (∀ e ∈ os, e < 4294967296) ∧ val 4294967296 (os.drop k) = val 4294967296 (xs.drop k) / d ∧ r = val 4294967296 (xs.drop k) % d)) (fun _ i _ => (intOf i + 1).toNat)
  case atStart => exact ⟨xs.length, 0, _, by omega, rfl, rfl, by omega, gb_alloc _ _ _, OwnNums.made _ _ _, by simp, by simp, by simp [val], by simp [val]⟩
  case round =>
    obtain ⟨k, r, os, hk, rfl, rfl, hr, hg, ho, hv⟩ := hrel
    clear hmk
    by_cases hlt : 0 < k
    · obtain ⟨m, rfl⟩ : ∃ m, k = m + 1 := ⟨k - 1, by omega⟩
      obtain ⟨b, o, rfl, hc⟩ := hA (by omega)
      have g1 := gb_cell hg (hc m (by omega)) (by simp)
      have g2 := ho.cell m (by rw [hv.out.1]; omega)
      have g3 := ho.free m
      have b1 := bx m
      clear hc hA bx
      generalize hxk : xs[m]?.getD 0 = x at g1 b1
      have HX := Lib.hid hxk
      clear hxk
      have e1 : (((m + 1 : Nat) : Int) - 1) = (m : Int) := by omega
      rw [e1]
      have e2 := or_add r x (by omega) b1
      have b2 : r * 4294967296 + x ≤ 18446744073709551615 := by omega
      have hs := short_step hd (show m < xs.length by omega) HX.out hv.out hd2 b1
      have b3 : (r * 4294967296 + x) / d < 4294967296 := by
        rw [Nat.div_lt_iff_lt_mul hd]
        have : (r + 1) * 4294967296 ≤ d * 4294967296 := Nat.mul_le_mul_right _ hr
        omega
      have b4 : (r * 4294967296 + x) % d < d := Nat.mod_lt _ hd
      have HS := Lib.hid hs
      clear hs HX hv e1
      generalize r * 4294967296 + x = t at *
      go_wp2
      exact ⟨⟨m, t % d, _, by omega, rfl, num_eq (by rw [Int.natCast_emod]), b4, gb_new hg (gb_set _ _ _ _) (Nat.le_refl _), ho.set' m (t / d) _ (by rw [u64_wrap, ← Int.natCast_ediv]; clear HS; generalize t / d = q at *; omega), HS⟩, by simp [intOf]⟩
    · obtain rfl : k = 0 := by omega
      go_wp2
      go_ret2
      obtain ⟨v1, v2, v3, v4⟩ := hv.out
      rw [List.drop_zero, List.drop_zero] at v3
      rw [List.drop_zero] at v4
      exact ⟨_, os, by rw [v4]; rfl, ho.nums v2 v1.symm (by omega) (by omega), v3, v1, hg⟩

/-! ### shift: a word more, some bits up -/
theorem pow32 {k : Nat} (hk : k ≤ 32) : 2 ^ k ≤ 4294967296 := by
  have := Nat.pow_le_pow_right (n := 2) (by omega) hk
  simpa using this
theorem or32 (u v : Nat) (k : Nat) (hk : k ≤ 32) (hu : u < 2 ^ k) (hv : v % 2 ^ k = 0) (hv2 : v < 4294967296) : bits .or .u32 (u : Int) (v : Int) = ((u + v : Nat) : Int) := by
  have hu2 : u < 4294967296 := Nat.lt_of_lt_of_le hu (by have := Nat.pow_le_pow_right (n := 2) (by omega) hk; simpa using this)
  rw [u32_or_nat _ _ hu2 hv2]
  have e := Nat.two_pow_add_eq_or_of_lt hu (v / 2 ^ k)
  have : 2 ^ k * (v / 2 ^ k) = v := by have := Nat.mod_add_div v (2 ^ k); omega
  rw [this] at e
  rw [Nat.or_comm u v, ← e, Nat.add_comm]

theorem mod_pow {x k : Nat} (hk : k < 32) : x * 2 ^ k % 4294967296 % 2 ^ k = 0 := by
  have : 4294967296 = 2 ^ k * 2 ^ (32 - k) := by rw [← Nat.pow_add, show k + (32 - k) = 32 by omega]
  rw [this, Nat.mod_mul_right_mod, Nat.mul_mod_left]
theorem shift_step {os xs : List Nat} {j k x : Nat} (hk : k < 32)
    (h : os.length = xs.length + 1 ∧ (∀ e ∈ os, e < 4294967296) ∧ val 4294967296 (os.take (j + 1)) = val 4294967296 (xs.take j) * 2 ^ k ∧ os[j]?.getD 0 < 2 ^ k) (hj : j < xs.length) (hx : xs[j]?.getD 0 = x) (hx2 : x < 4294967296) :
    let r := (os.set j (os[j]?.getD 0 + x * 2 ^ k % 4294967296)).set (j + 1) (x * 2 ^ k / 4294967296)
    r.length = xs.length + 1 ∧ (∀ e ∈ r, e < 4294967296) ∧ val 4294967296 (r.take (j + 1 + 1)) = val 4294967296 (xs.take (j + 1)) * 2 ^ k ∧ r[j + 1]?.getD 0 < 2 ^ k := by
  obtain ⟨h1, h2, h3, h4⟩ := h
  have e1 : x * 2 ^ k / 4294967296 < 2 ^ k := by
    rw [Nat.div_lt_iff_lt_mul (by omega), Nat.mul_comm]
    exact (Nat.mul_lt_mul_left (Nat.two_pow_pos k)).2 hx2
  have e2 : 2 ^ k ≤ 4294967296 := pow32 (by omega)
  have e3 : os[j]?.getD 0 + x * 2 ^ k % 4294967296 < 4294967296 := by
    have m1 : x * 2 ^ k % 4294967296 % 2 ^ k = 0 := mod_pow hk
    have m2 : x * 2 ^ k % 4294967296 < 4294967296 := Nat.mod_lt _ (by omega)
    have m3 : 4294967296 = 2 ^ k * 2 ^ (32 - k) := by rw [← Nat.pow_add, show k + (32 - k) = 32 by omega]
    generalize x * 2 ^ k % 4294967296 = t at *
    obtain ⟨q, rfl⟩ := Nat.dvd_of_mod_eq_zero m1
    have : q < 2 ^ (32 - k) := by
      rw [m3] at m2
      exact (Nat.mul_lt_mul_left (Nat.two_pow_pos k)).1 m2
    have : 2 ^ k * (q + 1) ≤ 2 ^ k * 2 ^ (32 - k) := Nat.mul_le_mul_left _ this
    rw [← m3, Nat.mul_add] at this
    omega
  refine ⟨by simpa using h1, set_lt (set_lt h2 _ _ e3) _ _ (by omega), ?_, ?_⟩
  · rw [val_set_succ _ _ _ _ (by simp; omega), val_set_succ _ _ _ _ (by omega), val_take_succ, List.getD_eq_getElem?_getD, hx]
    rw [val_take_succ, List.getD_eq_getElem?_getD] at h3
    have d := Nat.mod_add_div (x * 2 ^ k) 4294967296
    rw [Nat.pow_succ]
    generalize x * 2 ^ k % 4294967296 = a at *
    generalize x * 2 ^ k / 4294967296 = b at *
    have e : (val 4294967296 (List.take j xs) + 4294967296 ^ j * x) * 2 ^ k = val 4294967296 (List.take j xs) * 2 ^ k + 4294967296 ^ j * (x * 2 ^ k) := by grind
    rw [e, ← h3, ← d]
    generalize 4294967296 ^ j = p at *
    grind
  · rw [List.getElem?_set_self (by simp; omega)]
    exact e1

set_option maxHeartbeats 40000000 in
theorem shift_calls (w : World) (v1 : Value) (xs : List Nat) (k : Nat) (hx : Nums w v1 xs) (hl : xs.length ≤ 1099511627776) (hk : k < 32) :
    Calls Tryz.prog 227 #[v1, .int .u64 k] w fun e w' => ∃ g os, e = .returned (.slice (some ⟨g, 0, none⟩) (xs.length + 1) (xs.length + 1)) ∧ OwnNums w' g os ∧ (∀ d ∈ os, d < 4294967296) ∧ val 4294967296 os = val 4294967296 xs * 2 ^ k ∧ os.length = xs.length + 1 ∧ w.heap.size ≤ g ∧ w.grownBy w' none := by
  have bx := hx.lt
  obtain ⟨A, c, rfl, h1, h2, hA⟩ := hx.read
  have hmk := make_u32 (P := Tryz.prog) 47 56 Tryz.underlying47 u32info (xs.length + 1) (by omega) ((xs.length : Int) + 1) (by omega)
  go_enter Tryz.func227, Tryz.ntmps227
  go_wp2
  go_loopw [15] (fun i wr => ∃ (j : Nat) (os : List Nat), j ≤ xs.length ∧ i = .int .i64 j ∧ w.grownBy wr none ∧ OwnNums wr w.heap.size os ∧
      Hid (os.length = xs.length + 1 ∧ (∀ e ∈ os, e < 4294967296) ∧ val 4294967296 (os.take (j + 1)) = val 4294967296 (xs.take j) * 2 ^ k ∧ os[j]?.getD 0 < 2 ^ k)) (fun i _ => xs.length - (intOf i).toNat)
  case atStart => exact ⟨0, _, by omega, rfl, gb_alloc _ _ _, OwnNums.made _ _ _, by simp, by simp, by rw [List.take_replicate, val_zeros]; simp [val], by simp; exact Nat.two_pow_pos k⟩
  case round =>
    obtain ⟨j, os, hj, rfl, hg, ho, hv⟩ := hrel
    clear hmk
    by_cases hlt : j < xs.length
    · obtain ⟨b, o, rfl, hc⟩ := hA (by omega)
      have g1 := gb_cell hg (hc j hlt) (by simp)
      have g2 := ho.cell j (by rw [hv.out.1]; omega)
      have g3 := ho.free j
      have g4 := ho.cell (j + 1) (by rw [hv.out.1]; omega)
      have g5 := ho.free (j + 1)
      have b1 := bx j
      clear hc hA bx
      generalize hxk : xs[j]?.getD 0 = x at g1 b1
      have HX := Lib.hid hxk
      clear hxk
      go_wp2
      have ht : x * 2 ^ k < 18446744073709551616 := by
        have h2k : 2 ^ k ≤ 4294967296 := pow32 (by omega)
        have : x * 2 ^ k ≤ 4294967295 * 4294967296 := Nat.mul_le_mul (by omega) h2k
        omega
      have e0 : (x : Int) * 2 ^ k = ((x * 2 ^ k : Nat) : Int) := by rw [Int.natCast_mul, Int.natCast_pow]; rfl
      have hs := shift_step (by omega) hv.out hlt HX.out b1
      rw [e0, u64_wrap]
      exact ⟨⟨j + 1, _, by omega, by go_num, gb_new (gb_new hg (gb_set _ _ _ _) (Nat.le_refl _)) (gb_set _ _ _ _) (Nat.le_refl _), (ho.set' j (os[j]?.getD 0 + x * 2 ^ k % 4294967296) _ (by
          rw [← or32 _ _ k (by omega) hv.out.2.2.2 (mod_pow (by omega)) (Nat.mod_lt _ (by omega))]; congr 1; omega)).set' (j + 1) (x * 2 ^ k / 4294967296) _ (by omega), hs⟩, by simp [intOf]; omega⟩
    · obtain rfl : j = xs.length := by omega
      go_wp2
      go_ret
      obtain ⟨v1, v2, v3, v4⟩ := hv.out
      rw [val_take_ge _ os _ (by omega), List.take_length] at v3
      exact ⟨_, os, rfl, ho, v2, v3, v1, Nat.le_refl _, hg⟩

end Go.Proofs.YtmfmfpmkgmkgiaaGreatDoor

namespace Go.Proofs.YtmfmfpmkgmkgiaaGreatDoor
open Go.RowKit

theorem and_mask (t : Nat) (ht : t < 18446744073709551616) : bits .and .u64 (t : Int) 4294967295 = ((t % 4294967296 : Nat) : Int) := by
  have := bits_and_u64_nat t 4294967295 ht (by omega)
  rw [show (4294967295 : Int) = ((4294967295 : Nat) : Int) from rfl, this, show 4294967295 = 2 ^ 32 - 1 from rfl, Nat.and_two_pow_sub_one_eq_mod]
structure Took (us vs : List Nat) (o d i : Nat) (rs : List Nat) (k : Nat) : Prop where
  len : rs.length = us.length
  lt : ∀ e ∈ rs, e < 4294967296
  out : ∀ p, p < o ∨ o + i ≤ p → rs[p]?.getD 0 = us[p]?.getD 0
  eq : win 4294967296 rs o i + d * val 4294967296 (vs.take i) = win 4294967296 us o i + 4294967296 ^ i * k
theorem Took.step {us vs rs : List Nat} {o d i k x u : Nat} (h : Took us vs o d i rs k) (hlt : o + i < us.length) (hx : vs[i]?.getD 0 = x) (hu : us[o + i]?.getD 0 = u) (e k' : Nat)
    (he : e + (k + d * x) = u + 4294967296 * k') (hb : e < 4294967296) : Took us vs o d (i + 1) (rs.set (o + i) e) k' := by
  obtain ⟨h1, h2, h3, h4⟩ := h
  refine ⟨by simpa using h1, set_lt h2 _ _ hb, fun p hp => ?_, ?_⟩
  · rw [List.getElem?_set_ne (by omega)]; exact h3 p (by omega)
  · rw [win_set _ _ _ _ _ (by omega), val_take_succ, win_succ, List.getD_eq_getElem?_getD, hx, hu, Nat.pow_succ]
    generalize 4294967296 ^ i = p at *
    have : p * e + p * (k + d * x) = p * u + p * 4294967296 * k' := by rw [← Nat.mul_add, he]; grind
    grind
structure Gave (us vs : List Nat) (o i : Nat) (rs : List Nat) (k : Nat) : Prop where
  len : rs.length = us.length
  lt : ∀ e ∈ rs, e < 4294967296
  out : ∀ p, p < o ∨ o + i ≤ p → rs[p]?.getD 0 = us[p]?.getD 0
  eq : win 4294967296 rs o i + 4294967296 ^ i * k = win 4294967296 us o i + val 4294967296 (vs.take i)
theorem Gave.step {us vs rs : List Nat} {o i k x u : Nat} (h : Gave us vs o i rs k) (hlt : o + i < us.length) (hx : vs[i]?.getD 0 = x) (hu : us[o + i]?.getD 0 = u) :
    Gave us vs o (i + 1) (rs.set (o + i) ((u + k + x) % 4294967296)) ((u + k + x) / 4294967296) := by
  obtain ⟨h1, h2, h3, h4⟩ := h
  refine ⟨by simpa using h1, set_lt h2 _ _ (Nat.mod_lt _ (by omega)), fun p hp => ?_, ?_⟩
  · rw [List.getElem?_set_ne (by omega)]; exact h3 p (by omega)
  · rw [win_set _ _ _ _ _ (by omega), val_take_succ, win_succ, List.getD_eq_getElem?_getD, hx, hu, Nat.pow_succ]
    have e := Nat.mod_add_div (u + k + x) 4294967296
    generalize (u + k + x) % 4294967296 = r at *
    generalize (u + k + x) / 4294967296 = q at *
    generalize 4294967296 ^ i = p at *
    have : p * r + p * 4294967296 * q = p * (u + k + x) := by rw [← e]; grind
    grind
def TookAll (us vs : List Nat) (o n d : Nat) (w : World) (g : Nat) (e : Ending) (w' : World) : Prop :=
  ∃ rs : List Nat, e = .returned (.int .u32 ((win 4294967296 us o (n + 1) / val 4294967296 vs : Nat) : Int)) ∧ OwnNums w' g rs ∧ rs.length = us.length ∧ (∀ e ∈ rs, e < 4294967296) ∧ (∀ p, p < o ∨ o + (n + 1) ≤ p → rs[p]?.getD 0 = us[p]?.getD 0) ∧
    win 4294967296 rs o (n + 1) = win 4294967296 us o (n + 1) % val 4294967296 vs ∧ w.grownBy w' (some g)

theorem took_fits {us vs rs : List Nat} {o d g : Nat} {w w' : World} (h : Took us vs o d (vs.length + 1) rs 0) (hlo : win 4294967296 us o (vs.length + 1) < (d + 1) * val 4294967296 vs) (ho : OwnNums w' g rs) (hg : w.grownBy w' (some g)) :
    TookAll us vs o vs.length d w g (.returned (.int .u32 (d : Int))) w' := by
  obtain ⟨h1, h2, h3, h4⟩ := h
  rw [List.take_of_length_le (by omega), Nat.mul_zero, Nat.add_zero] at h4
  have hV : 0 < val 4294967296 vs := by
    rcases Nat.eq_zero_or_pos (val 4294967296 vs) with h | h
    · rw [h] at hlo; simp at hlo
    · exact h
  rw [Nat.add_mul, Nat.one_mul] at hlo
  have e1 : win 4294967296 us o (vs.length + 1) / val 4294967296 vs = d := by
    rw [Nat.div_eq_iff hV]; omega
  have e2 : win 4294967296 us o (vs.length + 1) % val 4294967296 vs = win 4294967296 rs o (vs.length + 1) := by
    have := Nat.mod_add_div (win 4294967296 us o (vs.length + 1)) (val 4294967296 vs)
    rw [e1, Nat.mul_comm] at this
    omega
  exact ⟨rs, by rw [e1], ho, h1, h2, h3, e2.symm, hg⟩
theorem took_back {us vs rs rs' : List Nat} {o d cy : Nat} (h : Took us vs o d (vs.length + 1) rs 1) (k : Gave rs vs o (vs.length + 1) rs' cy)
    (hhi : (d - 1) * val 4294967296 vs ≤ win 4294967296 us o (vs.length + 1)) (hlo : win 4294967296 us o (vs.length + 1) < (d + 1) * val 4294967296 vs) (hcy : cy ≤ 1) :
    1 ≤ d ∧ win 4294967296 us o (vs.length + 1) / val 4294967296 vs = d - 1 ∧ win 4294967296 rs' o (vs.length + 1) = win 4294967296 us o (vs.length + 1) % val 4294967296 vs := by
  have h4 := h.eq
  have k4 := k.eq
  have l1 := win_lt 4294967296 h.lt (by omega) o (vs.length + 1)
  have l2 := win_lt 4294967296 k.lt (by omega) o (vs.length + 1)
  rw [List.take_of_length_le (by omega)] at h4 k4
  rw [Nat.mul_one] at h4
  generalize win 4294967296 us o (vs.length + 1) = W at *
  generalize win 4294967296 rs o (vs.length + 1) = W1 at *
  generalize win 4294967296 rs' o (vs.length + 1) = W2 at *
  generalize val 4294967296 vs = V at *
  generalize 4294967296 ^ (vs.length + 1) = p at *
  have hV : 0 < V := by
    rcases Nat.eq_zero_or_pos V with h | h
    · rw [h] at hlo; simp at hlo
    · exact h
  have hd : 1 ≤ d := by
    rcases Nat.eq_zero_or_pos d with h | h
    · subst h; rw [Nat.zero_mul] at h4; omega
    · exact h
  obtain ⟨e, rfl⟩ : ∃ e, d = e + 1 := ⟨d - 1, by omega⟩
  rw [Nat.add_sub_cancel] at hhi ⊢
  rw [Nat.add_mul, Nat.one_mul] at h4
  obtain rfl | rfl : cy = 0 ∨ cy = 1 := by omega
  · omega
  · have e1 : W / V = e := by
      rw [Nat.div_eq_iff hV]; omega
    refine ⟨hd, e1, ?_⟩
    have := Nat.mod_add_div W V
    rw [e1, Nat.mul_comm] at this
    omega

set_option maxRecDepth 100000 in
set_option maxHeartbeats 40000000 in
theorem take_calls (w : World) (g o n c d : Nat) (v2 : Value) (us vs : List Nat) (hu : OwnNums w g us) (hub : ∀ e ∈ us, e < 4294967296) (hlen : o + (n + 1) ≤ us.length) (hul : us.length ≤ 1099511627777) (hc1 : n + 1 ≤ c) (hc2 : c ≤ 9223372036854775807)
    (hv : Nums w v2 vs) (hvn : vs.length = n) (hne : v2.ownBlock ≠ some g) (hd : d < 4294967296)
    (hlo : Hid (win 4294967296 us o (n + 1) < (d + 1) * val 4294967296 vs)) (hhi : Hid ((d - 1) * val 4294967296 vs ≤ win 4294967296 us o (n + 1))) :
    Calls Tryz.prog 228 #[.slice (some ⟨g, o, none⟩) (n + 1) c, v2, .int .u64 d] w fun e w' => TookAll us vs o n d w g e w' := by
  have bv := hv.lt
  obtain ⟨A, c', rfl, k1, k2, hA⟩ := hv.read
  have hne' : ∀ b o', A = some ⟨b, o', none⟩ → b ≠ g := fun b o' e h => hne (by rw [e, h]; rfl)
  subst hvn
  clear hne hv
  go_enter Tryz.func228, Tryz.ntmps228
  go_wp2
  go_loopw [7, 8, 15] (fun cv bv iv wr => ∃ (i cy bo : Nat) (rs : List Nat), i ≤ vs.length + 1 ∧ iv = .int .i64 i ∧ cv = .int .u64 cy ∧ bv = .int .u64 bo ∧ cy < 4294967296 ∧ bo ≤ 1 ∧ w.grownBy wr (some g) ∧ OwnNums wr g rs ∧ Hid (Took us vs o d i rs (cy + bo) ∧ (i = vs.length + 1 → cy = 0)))
    (fun _ _ iv _ => vs.length + 1 - (intOf iv).toNat)
  case atStart => exact ⟨0, 0, 0, us, by omega, rfl, rfl, rfl, by omega, by omega, gb_refl _ _, hu, ⟨rfl, hub, fun _ _ => rfl, by simp [win_zero, val]⟩, fun h => by omega⟩
  case round =>
    obtain ⟨i, cy, bo, rs, hi, rfl, rfl, rfl, hcy, hbo, hg, ho, ht⟩ := hrel
    by_cases hlt : i < vs.length + 1
    · have q1 := ho.cell (o + i) (by rw [ht.out.1.len]; omega)
      have q2 := ho.free (o + i)
      have b1 : rs[o + i]?.getD 0 < 4294967296 := by
        have := getD_lt (B := 4294967296) (by omega) ht.out.1.lt (o + i)
        rwa [List.getD_eq_getElem?_getD] at this
      have HU : Hid (us[o + i]?.getD 0 = rs[o + i]?.getD 0) := Lib.hid (ht.out.1.out (o + i) (by omega)).symm
      generalize rs[o + i]?.getD 0 = u at *
      by_cases hv2 : i < vs.length
      · obtain ⟨b, o', rfl, hc⟩ := hA (by omega)
        have q3 := gb_cell hg (hc i hv2) (by simpa using hne' b o' rfl)
        have b2 := bv i
        clear hc hA hne' bv
        generalize hxk : vs[i]?.getD 0 = x at q3 b2
        have HX := Lib.hid hxk
        clear hxk
        have b4 : (0 : Int) ≤ (d : Int) * (x : Int) := by have := Int.natCast_nonneg (d * x); rwa [Int.natCast_mul] at this
        have hdx : d * x ≤ 18446744065119617025 := by
          have : d * x ≤ 4294967295 * 4294967295 := Nat.mul_le_mul (by omega) (by omega)
          omega
        have b5 : (d : Int) * (x : Int) ≤ 18446744065119617025 := by rw [← Int.natCast_mul]; omega
        have e1 := and_mask (cy + d * x) (by omega)
        rw [Int.natCast_add, Int.natCast_mul] at e1
        have b6 : (cy + d * x) % 4294967296 < 4294967296 := Nat.mod_lt _ (by omega)
        have HM : Hid ((cy + d * x) % 4294967296 + 4294967296 * ((cy + d * x) / 4294967296) = cy + d * x) := Lib.hid (Nat.mod_add_div _ _)
        have HQ : Hid (((cy : Int) + (d : Int) * (x : Int)) / 4294967296 = (((cy + d * x) / 4294967296 : Nat) : Int)) := Lib.hid (by rw [← Int.natCast_mul]; omega)
        have b7 : (cy + d * x) / 4294967296 < 4294967296 := by omega
        generalize (cy + d * x) % 4294967296 = r at *
        generalize (cy + d * x) / 4294967296 = q at *
        clear hdx
        have hm := HM.out
        go_wp2
        · exact ⟨⟨i + 1, q, 1, _, by omega, by go_num, num_eq HQ.out, rfl, b7, by omega, gb_trans hg (gb_set _ _ _ _), ho.set' (o + i) (u + 4294967296 - (r + bo)) _ (by rw [u64_wrap]; omega), Lib.hid ⟨ht.out.1.step (by omega) HX.out HU.out _ _ (by omega) (by omega), fun h => by omega⟩⟩, by simp [intOf]; omega⟩
        · exact ⟨⟨i + 1, q, 0, _, by omega, by go_num, num_eq HQ.out, rfl, b7, by omega, gb_trans hg (gb_set _ _ _ _), ho.set' (o + i) (u - (r + bo)) _ (by omega), Lib.hid ⟨ht.out.1.step (by omega) HX.out HU.out _ _ (by omega) (by omega), fun h => by omega⟩⟩, by simp [intOf]; omega⟩
      · have HX : Hid (vs[i]?.getD 0 = 0) := by
          have : vs[i]? = none := List.getElem?_eq_none (by omega)
          exact Lib.hid (by rw [this]; rfl)
        have e1 := and_mask cy (by omega)
        rw [Nat.mod_eq_of_lt hcy] at e1
        clear hA hne' bv
        go_wp2
        · exact ⟨⟨i + 1, 0, 1, _, by omega, by go_num, num_eq (by omega), rfl, by omega, by omega, gb_trans hg (gb_set _ _ _ _), ho.set' (o + i) (u + 4294967296 - (cy + bo)) _ (by rw [u64_wrap]; omega), Lib.hid ⟨ht.out.1.step (by omega) HX.out HU.out _ _ (by omega) (by omega), fun h => rfl⟩⟩, by simp [intOf]; omega⟩
        · exact ⟨⟨i + 1, 0, 0, _, by omega, by go_num, num_eq (by omega), rfl, by omega, by omega, gb_trans hg (gb_set _ _ _ _), ho.set' (o + i) (u - (cy + bo)) _ (by omega), Lib.hid ⟨ht.out.1.step (by omega) HX.out HU.out _ _ (by omega) (by omega), fun h => rfl⟩⟩, by simp [intOf]; omega⟩
    · obtain rfl : i = vs.length + 1 := by omega
      obtain ⟨ht1, ht2⟩ := ht.out
      obtain rfl := ht2 rfl
      rw [Nat.zero_add] at ht1
      have HT := Lib.hid ht1
      clear ht ht1 ht2
      obtain rfl | rfl : bo = 0 ∨ bo = 1 := by omega
      · go_wp2
        go_ret
        exact took_fits HT.out hlo.out ho hg
      · go_wp2
        obtain ⟨wo, rfl⟩ : ∃ wo : World, wo = wr := ⟨_, rfl⟩
        go_loopw [7, 62] (fun cv iv wr => ∃ (i cy : Nat) (rs' : List Nat), i ≤ vs.length + 1 ∧ iv = .int .i64 i ∧ cv = .int .u64 cy ∧ cy ≤ 1 ∧ w.grownBy wr (some g) ∧ OwnNums wr g rs' ∧ Hid (Gave rs vs o i rs' cy))
          (fun _ iv _ => vs.length + 1 - (intOf iv).toNat)
        case atStart => exact ⟨0, 0, rs, by omega, rfl, rfl, by omega, hg, ho, ⟨rfl, HT.out.lt, fun _ _ => rfl, by simp [win_zero, val]⟩⟩
        case round =>
          clear ho hg
          obtain ⟨i, cy, rs', hi, rfl, rfl, hcy, hg, ho, ht⟩ := hrel
          by_cases hlt : i < vs.length + 1
          · have q1 := ho.cell (o + i) (by rw [ht.out.len, HT.out.len]; omega)
            have q2 := ho.free (o + i)
            have b1 : rs'[o + i]?.getD 0 < 4294967296 := by
              have := getD_lt (B := 4294967296) (by omega) ht.out.lt (o + i)
              rwa [List.getD_eq_getElem?_getD] at this
            have HU : Hid (rs[o + i]?.getD 0 = rs'[o + i]?.getD 0) := Lib.hid (ht.out.out (o + i) (by omega)).symm
            generalize rs'[o + i]?.getD 0 = u at *
            by_cases hv2 : i < vs.length
            · obtain ⟨b, o', rfl, hc⟩ := hA (by omega)
              have q3 := gb_cell hg (hc i hv2) (by simpa using hne' b o' rfl)
              have b2 := bv i
              clear hc hA hne' bv
              generalize hxk : vs[i]?.getD 0 = x at q3 b2
              have HX := Lib.hid hxk
              clear hxk
              go_wp2
              exact ⟨⟨i + 1, _, _, by omega, by go_num, num_eq (a := ((u : Int) + cy + x) / 4294967296) (by omega : _ = (((u + cy + x) / 4294967296 : Nat) : Int)), by omega, gb_trans hg (gb_set _ _ _ _), ho.set' (o + i) ((u + cy + x) % 4294967296) _ (by omega), Lib.hid (ht.out.step (by rw [HT.out.len]; omega) HX.out HU.out)⟩, by simp [intOf]; omega⟩
            · have HX : Hid (vs[i]?.getD 0 = 0) := by
                have : vs[i]? = none := List.getElem?_eq_none (by omega)
                exact Lib.hid (by rw [this]; rfl)
              clear hA hne' bv
              go_wp2
              exact ⟨⟨i + 1, _, _, by omega, by go_num, num_eq (a := ((u : Int) + cy) / 4294967296) (by omega : _ = (((u + cy + 0) / 4294967296 : Nat) : Int)), by omega, gb_trans hg (gb_set _ _ _ _), ho.set' (o + i) ((u + cy + 0) % 4294967296) _ (by omega), Lib.hid (ht.out.step (by rw [HT.out.len]; omega) HX.out HU.out)⟩, by simp [intOf]; omega⟩
          · obtain rfl : i = vs.length + 1 := by omega
            have hf := took_back HT.out ht.out hhi.out hlo.out hcy
            have hd1 : 1 ≤ d := hf.1
            go_wp2
            go_ret
            refine ⟨rs', ?_, ho, by rw [ht.out.len, HT.out.len], ht.out.lt, fun p hp => by rw [ht.out.out p hp, HT.out.out p hp], hf.2.2, hg⟩
            rw [hf.2.1]
            exact ret_int (by omega)

end Go.Proofs.YtmfmfpmkgmkgiaaGreatDoor

namespace Go.Proofs.YtmfmfpmkgmkgiaaGreatDoor
open Go.RowKit

/-! ### the guess of a digit (n = m + 2 words) -/
section
variable {m vl v2 v1 wl u2 top V W d rest p : Nat}
theorem est_init (hV : V = vl + p * (v2 + 4294967296 * v1)) (hW : W = wl + p * (u2 + 4294967296 * top)) (hwl : wl < p) (hu2 : u2 < 4294967296) (hv1 : 0 < v1) : W < (top / v1 + 1) * V := by
  have h1 : top + 1 ≤ (top / v1 + 1) * v1 := by
    have := Nat.lt_div_mul_add (a := top) hv1
    rw [Nat.add_mul]; omega
  have h2 : W < p * (4294967296 * (top + 1)) := by
    have : p * (u2 + 4294967296 * top + 1) ≤ p * (4294967296 * (top + 1)) := Nat.mul_le_mul_left _ (by omega)
    rw [Nat.mul_add] at this
    omega
  have h3 : p * (4294967296 * (top + 1)) ≤ p * (4294967296 * ((top / v1 + 1) * v1)) := Nat.mul_le_mul_left _ (Nat.mul_le_mul_left _ h1)
  have h4 : p * (4294967296 * ((top / v1 + 1) * v1)) ≤ (top / v1 + 1) * V := by
    rw [hV]
    generalize top / v1 + 1 = e
    have : e * (vl + p * (v2 + 4294967296 * v1)) = p * (4294967296 * (e * v1)) + (e * vl + e * (p * v2)) := by grind
    omega
  omega
theorem est_less (hV : V = vl + p * (v2 + 4294967296 * v1)) (hW : W = wl + p * (u2 + 4294967296 * top)) (hwl : wl < p) (ht : d * v1 + rest = top) (hc : rest * 4294967296 + u2 < d * v2) : W < d * V := by
  have h1 : p * (rest * 4294967296 + u2 + 1) ≤ p * (d * v2) := Nat.mul_le_mul_left _ hc
  have h2 : d * V = d * vl + (p * (d * v2) + p * (4294967296 * (d * v1))) := by rw [hV]; grind
  have h3 : W = wl + p * u2 + (p * (4294967296 * (d * v1)) + p * (4294967296 * rest)) := by rw [hW, ← ht]; grind
  have h4 : p * (rest * 4294967296 + u2 + 1) = p * (4294967296 * rest) + p * u2 + p := by grind
  omega
theorem est_top (hV : V = vl + p * (v2 + 4294967296 * v1)) (hW : W = wl + p * (u2 + 4294967296 * top)) (hvl : vl < p) (hv2 : v2 < 4294967296) (hWV : W < 4294967296 * V) : top < 4294967296 * v1 + 4294967296 := by
  have h1 : V < p * (4294967296 * (v1 + 1)) := by
    have : p * (v2 + 4294967296 * v1 + 1) ≤ p * (4294967296 * (v1 + 1)) := Nat.mul_le_mul_left _ (by omega)
    rw [Nat.mul_add] at this
    omega
  have hp : 0 < p := by omega
  have h2 : p * (4294967296 * top) < p * (4294967296 * (4294967296 * (v1 + 1))) := by
    have e1 : p * (u2 + 4294967296 * top) = p * u2 + p * (4294967296 * top) := Nat.mul_add _ _ _
    have e2 : 4294967296 * V < 4294967296 * (p * (4294967296 * (v1 + 1))) := by omega
    have e3 : 4294967296 * (p * (4294967296 * (v1 + 1))) = p * (4294967296 * (4294967296 * (v1 + 1))) := by grind
    omega
  have h3 := Nat.lt_of_mul_lt_mul_left h2
  omega
theorem est_rest (hV : V = vl + p * (v2 + 4294967296 * v1)) (hW : W = wl + p * (u2 + 4294967296 * top)) (hvl : vl < p) (hv2 : v2 < 4294967296) (ht : d * v1 + rest = top) (hr : 4294967296 ≤ rest) (hd : d < 4294967296) : (d - 1) * V ≤ W := by
  have h0 : (d - 1) * V ≤ d * V := Nat.mul_le_mul_right _ (by omega)
  have h1 : vl + p * v2 ≤ p * 4294967296 := by
    have : p * (v2 + 1) ≤ p * 4294967296 := Nat.mul_le_mul_left _ hv2
    rw [Nat.mul_add] at this
    omega
  have h2 : d * (vl + p * v2) ≤ 4294967296 * (p * 4294967296) := Nat.mul_le_mul (by omega) h1
  have h3 : d * V = d * (vl + p * v2) + p * (4294967296 * (d * v1)) := by rw [hV]; grind
  have h4 : W = wl + p * u2 + p * (4294967296 * (d * v1)) + p * (4294967296 * rest) := by rw [hW, ← ht]; grind
  have h5 : p * (4294967296 * 4294967296) ≤ p * (4294967296 * rest) := Nat.mul_le_mul_left _ (Nat.mul_le_mul_left _ hr)
  have h6 : 4294967296 * (p * 4294967296) = p * (4294967296 * 4294967296) := by grind
  omega
theorem est_fits (hV : V = vl + p * (v2 + 4294967296 * v1)) (hW : W = wl + p * (u2 + 4294967296 * top)) (hvl : vl < p) (hv1 : 0 < v1) (ht : d * v1 + rest = top) (hc : d * v2 ≤ rest * 4294967296 + u2) (hd : d < 4294967296) : (d - 1) * V ≤ W := by
  rcases Nat.eq_zero_or_pos d with h | hpos
  · subst h; simp
  have h1 : d * vl ≤ 4294967296 * p := Nat.mul_le_mul (by omega) (by omega)
  have h2 : p * (d * v2) ≤ p * (rest * 4294967296 + u2) := Nat.mul_le_mul_left _ hc
  have h3 : d * V = d * vl + p * (d * v2) + p * (4294967296 * (d * v1)) := by rw [hV]; grind
  have h4 : W = wl + p * (rest * 4294967296 + u2) + p * (4294967296 * (d * v1)) := by rw [hW, ← ht]; grind
  have h5 : 4294967296 * p ≤ V := by
    have : p * (4294967296 * 1) ≤ p * (4294967296 * v1) := Nat.mul_le_mul_left _ (Nat.mul_le_mul_left _ hv1)
    rw [hV, Nat.mul_add]; omega
  have h6 : (d - 1) * V + V = d * V := by
    obtain ⟨e, rfl⟩ : ∃ e, d = e + 1 := ⟨d - 1, by omega⟩
    rw [Nat.add_sub_cancel, Nat.add_mul, Nat.one_mul]
  omega
end
theorem val_top {vs : List Nat} {m : Nat} (h : vs.length = m + 2) : val 4294967296 vs = val 4294967296 (vs.take m) + 4294967296 ^ m * (vs[m]?.getD 0 + 4294967296 * vs[m + 1]?.getD 0) := by
  have e1 := val_take_succ 4294967296 vs m
  have e2 := val_take_succ 4294967296 vs (m + 1)
  rw [show m + 1 + 1 = vs.length by omega, List.take_length, e1, List.getD_eq_getElem?_getD, List.getD_eq_getElem?_getD, Nat.pow_succ] at e2
  rw [e2]; grind
theorem win_top (us : List Nat) (j m : Nat) : win 4294967296 us j (m + 2 + 1) = win 4294967296 us j m + 4294967296 ^ m * (us[j + m]?.getD 0 + 4294967296 * (us[j + (m + 2)]?.getD 0 * 4294967296 + us[j + (m + 1)]?.getD 0)) := by
  rw [win_succ, win_succ, win_succ, Nat.pow_succ, Nat.pow_succ]; grind

theorem val_split (B : Nat) (us : List Nat) (j : Nat) (h : j ≤ us.length) : val B us = val B (us.take j) + B ^ j * val B (us.drop j) := by
  have := val_append B (us.take j) (us.drop j)
  rw [List.take_append_drop] at this
  rw [this]; simp [Nat.min_eq_left h]
theorem win_drop (B : Nat) (us : List Nat) (j n : Nat) (h : j + n ≤ us.length) : val B (us.drop j) = win B us j n + B ^ n * val B (us.drop (j + n)) := by
  have := val_split B (us.drop j) n (by simp; omega)
  rw [List.drop_drop] at this
  exact this
theorem drop_same (B : Nat) {us us' : List Nat} (hl : us'.length = us.length) : ∀ k j, us.length - j = k → (∀ p, j ≤ p → us'[p]?.getD 0 = us[p]?.getD 0) → val B (us'.drop j) = val B (us.drop j)
  | 0, j, hk, _ => by rw [List.drop_of_length_le (by omega), List.drop_of_length_le (by omega)]
  | k + 1, j, hk, h => by
    rw [val_drop B us' j (by omega), val_drop B us j (by omega), h j (Nat.le_refl _), drop_same B hl k (j + 1) (by omega) (fun p hp => h p (by omega))]
theorem take_same (B : Nat) {us us' : List Nat} : ∀ j, (∀ p, p < j → us'[p]?.getD 0 = us[p]?.getD 0) → val B (us'.take j) = val B (us.take j)
  | 0, _ => by simp [val]
  | j + 1, h => by
    rw [val_take_succ, val_take_succ, List.getD_eq_getElem?_getD, List.getD_eq_getElem?_getD, take_same B j (fun p hp => h p (by omega)), h j (by omega)]
structure Longs (A V L n : Nat) (J : Nat) (us q : List Nat) (la : Nat) : Prop where
  ul : us.length = la + 1
  ub : ∀ e ∈ us, e < 4294967296
  ql : q.length = L
  qb : ∀ e ∈ q, e < 4294967296
  less : val 4294967296 (us.drop J) < V
  eq : val 4294967296 us + V * (4294967296 ^ J * val 4294967296 (q.drop J)) = A
theorem Longs.window {A V L n j la : Nat} {us q : List Nat} (h : Longs A V L n (j + 1) us q la) (hV : V < 4294967296 ^ n) (hj : j + (n + 1) ≤ la + 1) : win 4294967296 us j (n + 1) = val 4294967296 (us.drop j) ∧ win 4294967296 us j (n + 1) < 4294967296 * V := by
  have hu := h.ul
  have hl := h.less
  have e1 := val_drop 4294967296 us j (by omega)
  have e2 := win_drop 4294967296 us j (n + 1) (by omega)
  have b := getD_lt (B := 4294967296) (by omega) h.ub j
  rw [List.getD_eq_getElem?_getD] at b
  have e3 : val 4294967296 (us.drop j) < 4294967296 ^ (n + 1) := by
    rw [Nat.pow_succ, e1]; omega
  have e4 : val 4294967296 (us.drop (j + (n + 1))) = 0 := by
    rcases Nat.eq_zero_or_pos (val 4294967296 (us.drop (j + (n + 1)))) with h | h
    · exact h
    · have : 4294967296 ^ (n + 1) * 1 ≤ 4294967296 ^ (n + 1) * val 4294967296 (us.drop (j + (n + 1))) := Nat.mul_le_mul_left _ h
      omega
  rw [e4, Nat.mul_zero, Nat.add_zero] at e2
  exact ⟨e2.symm, by omega⟩
theorem Longs.step {A V L n j la : Nat} {us us' q : List Nat} (h : Longs A V L n (j + 1) us q la) (hV : V < 4294967296 ^ n) (hV0 : 0 < V) (hj : j + (n + 1) ≤ la + 1) (hL : j < L)
    (hl : us'.length = us.length) (hb : ∀ e ∈ us', e < 4294967296) (ho : ∀ p, p < j ∨ j + (n + 1) ≤ p → us'[p]?.getD 0 = us[p]?.getD 0)
    (hw : win 4294967296 us' j (n + 1) = win 4294967296 us j (n + 1) % V) : Longs A V L n j us' (q.set j (win 4294967296 us j (n + 1) / V)) la := by
  obtain ⟨w1, w2⟩ := h.window hV hj
  have hu := h.ul
  have e0 := val_split 4294967296 us j (by omega)
  have e1 := val_split 4294967296 us' j (by omega)
  have e2 := win_drop 4294967296 us' j (n + 1) (by omega)
  have e2' := win_drop 4294967296 us j (n + 1) (by omega)
  rw [drop_same 4294967296 hl _ (j + (n + 1)) rfl (fun p hp => ho p (.inr hp))] at e2
  have hz : 4294967296 ^ (n + 1) * val 4294967296 (us.drop (j + (n + 1))) = 0 := by omega
  rw [hz, Nat.add_zero, hw] at e2
  rw [take_same 4294967296 j (fun p hp => ho p (.inl hp)), e2] at e1
  rw [← w1] at e0
  refine ⟨by omega, hb, by simpa using h.ql, set_lt h.qb _ _ ?_, ?_, ?_⟩
  · rw [Nat.div_lt_iff_lt_mul hV0]; exact w2
  · rw [e2]; exact Nat.mod_lt _ hV0
  · rw [val_set_drop _ _ _ _ (by rw [h.ql]; exact hL), e1, ← h.eq, e0, Nat.pow_succ]
    have := Nat.mod_add_div (win 4294967296 us j (n + 1)) V
    generalize win 4294967296 us j (n + 1) = W at *
    generalize W % V = r at *
    generalize W / V = k at *
    rw [← this]
    generalize 4294967296 ^ j = p at *
    grind
theorem down_step {us : List Nat} {k i : Nat} (hk : k < 32) (h : ∀ e ∈ us, e < 4294967296) (x y : Nat) (hx : us[i]?.getD 0 = x) (hy : us[i + 1]?.getD 0 = y) :
    x / 2 ^ k + y * 2 ^ (32 - k) % 4294967296 < 4294967296 ∧ 2 ^ k * (x / 2 ^ k + y * 2 ^ (32 - k) % 4294967296) + x % 2 ^ k = x + 4294967296 * (y % 2 ^ k) := by
  have m3 : 4294967296 = 2 ^ k * 2 ^ (32 - k) := by rw [← Nat.pow_add, show k + (32 - k) = 32 by omega]
  have bx := getD_lt (B := 4294967296) (by omega) h i
  rw [List.getD_eq_getElem?_getD, hx] at bx
  have e : y * 2 ^ (32 - k) % 4294967296 = (y % 2 ^ k) * 2 ^ (32 - k) := by
    conv => lhs; rw [m3]
    rw [Nat.mul_mod_mul_right]
  have d1 := Nat.mod_add_div x (2 ^ k)
  have d2 := Nat.mod_lt y (Nat.two_pow_pos k)
  have d3 : x / 2 ^ k < 2 ^ (32 - k) := by
    rw [Nat.div_lt_iff_lt_mul (Nat.two_pow_pos k), Nat.mul_comm, ← m3]; exact bx
  rw [e]
  constructor
  · have : (y % 2 ^ k + 1) * 2 ^ (32 - k) ≤ 2 ^ k * 2 ^ (32 - k) := Nat.mul_le_mul_right _ d2
    rw [← m3, Nat.add_mul] at this
    omega
  · have : 2 ^ k * (y % 2 ^ k * 2 ^ (32 - k)) = 4294967296 * (y % 2 ^ k) := by rw [m3]; grind
    rw [Nat.mul_add, this]
    omega

end Go.Proofs.YtmfmfpmkgmkgiaaGreatDoor
