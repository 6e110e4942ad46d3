/- Contracts of the program's functions, and what they rest on: Rd Seat FlatC FlatD. -/
import Derived.Test.YtmfmfpmkgmkgiaaGreatDoorMai
import Derived.Deep.Slices
import Derived.ChangeSame
import Derived.WideKeyElems4
import Derived.ProofKit
import Derived.Test.YtmfmfpmkgmkgiaaGreatDoorCards
import Derived.Test.YtmfmfpmkgmkgiaaGreatDoorTie
import Derived.Test.YtmfmfpmkgmkgiaaGreatDoorMaa
import Derived.WalkKit
import Derived.Deep.DeepHandedRow
import Derived.Lib.LaidTab
import Derived.Lib.SmallJoins
import Derived.Shelf.Vars
import Derived.Test.YtmfmfpmkgmkgiaaGreatDoorMad
set_option linter.unusedVariables false
set_option linter.unusedSimpArgs false
namespace Go.Proofs.YtmfmfpmkgmkgiaaGreatDoor
open Go.RowKit Go.ChangeShapes Go.WideShapes Go.Deep

section
variable {H : Type} {enc : TypeId × Value → H} {P : Program} {w : World} {base : Nat} {spare : Nat → Bool} {held : Bool}

theorem list_lt {α : Type} {p : Nat → α → Prop} (d : α) : ∀ {n : Nat}, (∀ i, i < n → ∃ x, p i x) → ∃ l : List α, l.length = n ∧ ∀ i, i < n → p i (l.getD i d)
  | 0, _ => ⟨[], rfl, fun i hi => by omega⟩
  | n + 1, h => by
    obtain ⟨l, hl, hp⟩ := list_lt d (n := n) (fun i hi => h i (by omega))
    obtain ⟨x, hx⟩ := h n (by omega)
    refine ⟨l ++ [x], by simp [hl], fun i hi => ?_⟩
    by_cases hin : i < n
    · have e : (l ++ [x]).getD i d = l.getD i d := by simp [List.getD, List.getElem?_append_left (show i < l.length by omega)]
      rw [e]; exact hp i hin
    · obtain rfl : i = n := by omega
      have e : (l ++ [x]).getD i d = x := by simp [List.getD, ← hl]
      rw [e]; exact hx

theorem rd_struct {t : TypeId} {fs : Array Field} {fuel : Nat} {cs : List Value} {x : DataW H × List MemPlace} (ht : P.underlying t = some (.struct fs)) (h : DataW.trod enc P w base spare held fuel t cs = some x) :
    ∃ n, cs.length = P.cellsOf t ∧ ∀ (i : Nat) (f : Field), fs[i]? = some f → ∃ y, DataW.trod enc P w base spare held n f.type ((cs.drop f.offset).take (P.cellsOf f.type)) = some y := by
  obtain ⟨xs, n, _, rfl, hl, hlen, hf⟩ := DataW.trod_struct ht h
  refine ⟨n, hl, fun i f hi => ?_⟩
  have hlt : i < fs.size := (Array.getElem?_eq_some_iff.1 hi).1
  refine ⟨xs[i]'(by omega), ?_⟩
  rw [hf i f hi, List.getElem?_eq_getElem (by omega)]

theorem rd_field {fs : Array Field} {cs : List Value} {n : Nat} (h : ∀ (i : Nat) (f : Field), fs[i]? = some f → ∃ y, DataW.trod enc P w base spare held n f.type ((cs.drop f.offset).take (P.cellsOf f.type)) = some y)
    (i : Nat) {f : Field} (hi : fs[i]? = some f) {tt : TypeId} {o k : Nat} (ht : f.type = tt) (ho : f.offset = o) (hk : P.cellsOf tt = k) : ∃ y, DataW.trod enc P w base spare held n tt ((cs.drop o).take k) = some y := by
  subst ht ho hk
  exact h i f hi

theorem rd_list {α : Type} (d : α) {t e : TypeId} {k : Nat} (ht : P.underlying t = some (.slice e)) (hc : P.cellsOf e = k) (hk : 0 < k) (p : List Value → α → Prop)
    {fuel : Nat} {cs : List Value} {x : DataW H × List MemPlace} (hp : ∀ n cs x, DataW.trod enc P w base spare held n e cs = some x → ∃ y, p cs y) (h : DataW.trod enc P w base spare held fuel t cs = some x) :
    ∃ (A : Option Addr) (l : List α) (cap : Nat), cs = [.slice A l.length cap] ∧ l.length ≤ cap ∧ cap ≤ 9223372036854775807 ∧ (A = none → cap = 0) ∧
      (l = [] ∨ ∃ es sp, x.1 = .slice es sp ∧ es.length = l.length) ∧
      (0 < l.length → ∃ b o, A = some ⟨b, o, none⟩ ∧ ∀ i, i < l.length → ∃ cs', cs'.length = k ∧ p cs' (l.getD i d) ∧ ∀ j, j < k → w.cell? ⟨b, o + i * k + j, none⟩ = cs'[j]?) := by
  rcases open_slice ht h with ⟨rfl, _⟩ | ⟨a, len, cap, m, n, D, Pl, rfl, hb, hl, hm, hmm, rfl, hx⟩
  · exact ⟨none, [], 0, rfl, Nat.le_refl _, by omega, fun _ => rfl, .inl rfl, fun h => by simp at h⟩
  · have hlm : len ≤ m := by rw [hmm]; split <;> omega
    rw [hc] at hx
    obtain ⟨l, hll, hpl⟩ := list_lt (α := α) (p := fun i y => ∃ cs', cs'.length = k ∧ p cs' y ∧ ∀ j, j < k → w.cell? ((a.add (i * k)).add j) = cs'[j]?) d (n := len) (fun i hi => by
      obtain ⟨cs', h1, h2⟩ := hx i (by omega)
      obtain ⟨y, hy⟩ := hp _ _ _ h2
      obtain ⟨_, h3, h4⟩ := World.cells?_some h1
      exact ⟨y, cs', h3, hy, h4⟩)
    subst hll
    refine ⟨some a, l, cap, rfl, hl, by simpa [maxLen] using hm, (fun h => by cases h), Or.inr ⟨_, _, rfl, by simp⟩, fun hpos => ?_⟩
    obtain ⟨b, off, spot⟩ := a
    obtain ⟨cs0, h3, _, h4⟩ := hpl 0 hpos
    have h5 := h4 0 hk
    rw [List.getElem?_eq_getElem (by omega)] at h5
    have hspot : spot = none := by simpa [Addr.add] using World.cell?_spot h5
    subst hspot
    refine ⟨b, off, rfl, fun i hi => ?_⟩
    obtain ⟨cs', h6, h7, h8⟩ := hpl i hi
    refine ⟨cs', h6, h7, fun j hj => ?_⟩
    rw [← h8 j hj, add_plain, add_plain]

theorem rd_nums {t e : TypeId} (ht : P.underlying t = some (.slice e)) (he : P.underlying e = some (.int .u32)) (hc : P.cellsOf e = 1) {fuel : Nat} {cs : List Value} {x : DataW H × List MemPlace}
    (h : DataW.trod enc P w base spare held fuel t cs = some x) : ∃ v xs, cs = [v] ∧ Nums w v xs := by
  obtain ⟨A, l, cap, rfl, h1, h2, h3, _, h4⟩ := rd_list (α := Nat) 0 ht hc (by omega) (fun cs y => cs = [.int .u32 (y : Int)] ∧ y < 4294967296) (fun n cs x hx => by
    obtain ⟨z, rfl, _, hz⟩ := DataW.trod_int he hx
    have hr : 0 ≤ z ∧ z ≤ 4294967295 := by simpa [Lit.wf, IntKind.min, IntKind.max, IntKind.signed, IntKind.bits] using hz
    exact ⟨z.toNat, by rw [show ((z.toNat : Nat) : Int) = z by omega], by omega⟩) h
  by_cases hp : 0 < l.length
  · obtain ⟨b, o, rfl, hcell⟩ := h4 hp
    refine ⟨_, l, rfl, Nums.mk rfl h1 h2 (fun i hi => ?_) (fun y hy => ?_)⟩
    · obtain ⟨cs', _, ⟨rfl, _⟩, hj⟩ := hcell i hi
      have := hj 0 (by omega)
      rw [Nat.mul_one, Nat.add_zero] at this
      rw [this, List.getD_eq_getElem?_getD]; rfl
    · obtain ⟨i, hi, rfl⟩ := List.getElem_of_mem hy
      obtain ⟨cs', _, ⟨_, hlt⟩, _⟩ := hcell i hi
      rw [List.getD_eq_getElem?_getD, List.getElem?_eq_getElem hi] at hlt
      exact hlt
  · obtain rfl : l = [] := List.eq_nil_of_length_eq_zero (by omega)
    exact ⟨_, [], rfl, Nums.empty w h2 h3⟩

theorem rd_ints {t e : TypeId} (ht : P.underlying t = some (.slice e)) (he : P.underlying e = some (.int .i64)) (hc : P.cellsOf e = 1) {fuel : Nat} {cs : List Value} {x : DataW H × List MemPlace}
    (h : DataW.trod enc P w base spare held fuel t cs = some x) : ∃ v l, cs = [v] ∧ IntRow w v l ∧ (l = [] ∨ ∃ es sp, x.1 = .slice es sp ∧ es.length = l.length) := by
  obtain ⟨A, l, cap, rfl, h1, h2, h3, h5, h4⟩ := rd_list (α := Int) 0 ht hc (by omega) (fun cs y => cs = [.int .i64 y] ∧ I64 y) (fun n cs x hx => by
    obtain ⟨z, rfl, _, hz⟩ := DataW.trod_int he hx
    exact ⟨z, rfl, by have : -9223372036854775808 ≤ z ∧ z ≤ 9223372036854775807 := by simpa [Lit.wf, IntKind.min, IntKind.max, IntKind.signed, IntKind.bits] using hz
                      exact this⟩) h
  refine ⟨_, l, rfl, ⟨A, cap, rfl, h1, h2, fun y hy => ?_, fun hp => ?_⟩, h5⟩
  · obtain ⟨i, hi, rfl⟩ := List.getElem_of_mem hy
    obtain ⟨b, o, _, hcell⟩ := h4 (by omega)
    obtain ⟨cs', _, ⟨_, hlt⟩, _⟩ := hcell i hi
    rw [List.getD_eq_getElem?_getD, List.getElem?_eq_getElem hi] at hlt
    exact hlt
  · obtain ⟨b, o, rfl, hcell⟩ := h4 hp
    refine ⟨b, o, rfl, fun i hi => ?_⟩
    obtain ⟨cs', _, ⟨rfl, _⟩, hj⟩ := hcell i hi
    have := hj 0 (by omega)
    rw [Nat.mul_one, Nat.add_zero] at this
    rw [this]; rfl
end

section
variable {H : Type} {enc : TypeId × Value → H} {w : World} {base : Nat} {spare : Nat → Bool} {held : Bool}
theorem rc_bool : Tryz.prog.cellsOf 4 = 1 := by kernel_rfl
theorem rc_int : Tryz.prog.cellsOf 3 = 1 := by kernel_rfl
theorem rc_u32 : Tryz.prog.cellsOf 56 = 1 := by kernel_rfl
theorem rc_u32s : Tryz.prog.cellsOf 47 = 1 := by kernel_rfl
theorem rc_Int : Tryz.prog.cellsOf 49 = 2 := by kernel_rfl
theorem rc_Cell : Tryz.prog.cellsOf 55 = 3 := by kernel_rfl
theorem rc_Cells : Tryz.prog.cellsOf 50 = 1 := by kernel_rfl
theorem rc_Row : Tryz.prog.cellsOf 52 = 7 := by kernel_rfl
theorem rc_Rows : Tryz.prog.cellsOf 36 = 1 := by kernel_rfl
theorem rc_System : Tryz.prog.cellsOf 38 = 1 := by kernel_rfl

set_option maxRecDepth 100000 in
theorem rd_Int {fuel : Nat} {cs : List Value} {x : DataW H × List MemPlace} (h : DataW.trod enc Tryz.prog w base spare held fuel 49 cs = some x) : ∃ neg v xs, cs = [.bool neg, v] ∧ Nums w v xs := by
  obtain ⟨n, hl, hf⟩ := rd_struct Tryz.underlying49 h
  rw [rc_Int] at hl
  match cs, hl with
  | [c0, c1], _ =>
  obtain ⟨y0, h0⟩ := rd_field hf 0 rfl (tt := 4) (o := 0) rfl rfl rc_bool
  have h0 : DataW.trod enc Tryz.prog w base spare held n 4 [c0] = some y0 := h0
  obtain ⟨y1, h1⟩ := rd_field hf 1 rfl (tt := 47) (o := 1) rfl rfl rc_u32s
  have h1 : DataW.trod enc Tryz.prog w base spare held n 47 [c1] = some y1 := h1
  obtain ⟨b, hb, _⟩ := DataW.trod_bool Tryz.underlying4 h0
  obtain ⟨v, xs, hv, hn⟩ := rd_nums Tryz.underlying47 Tryz.underlying56 rc_u32 h1
  injection hb with hb
  injection hv with hv
  subst hb hv
  exact ⟨b, _, xs, rfl, hn⟩

set_option maxRecDepth 100000 in
theorem rd_Cell {fuel : Nat} {cs : List Value} {x : DataW H × List MemPlace} (h : DataW.trod enc Tryz.prog w base spare held fuel 55 cs = some x) : ∃ c : CellP, I64 c.col ∧ ∃ v, cs = [.int .i64 c.col, .bool c.neg, v] ∧ Nums w v c.limbs := by
  obtain ⟨n, hl, hf⟩ := rd_struct Tryz.underlying55 h
  rw [rc_Cell] at hl
  match cs, hl with
  | [c0, c1, c2], _ =>
  obtain ⟨y0, h0⟩ := rd_field hf 0 rfl (tt := 3) (o := 0) rfl rfl rc_int
  have h0 : DataW.trod enc Tryz.prog w base spare held n 3 [c0] = some y0 := h0
  obtain ⟨y1, h1⟩ := rd_field hf 1 rfl (tt := 49) (o := 1) rfl rfl rc_Int
  have h1 : DataW.trod enc Tryz.prog w base spare held n 49 [c1, c2] = some y1 := h1
  obtain ⟨z, hz, _, hw⟩ := DataW.trod_int Tryz.underlying3 h0
  obtain ⟨b, v, xs, hv, hn⟩ := rd_Int h1
  injection hz with hz
  injection hv with hv hv2
  injection hv2 with hv2
  subst hz hv hv2
  exact ⟨⟨z, b, xs⟩, by have : -9223372036854775808 ≤ z ∧ z ≤ 9223372036854775807 := by simpa [Lit.wf, IntKind.min, IntKind.max, IntKind.signed, IntKind.bits] using hw
                        exact this, _, rfl, hn⟩

theorem rd_Cells {fuel : Nat} {cs : List Value} {x : DataW H × List MemPlace} (h : DataW.trod enc Tryz.prog w base spare held fuel 50 cs = some x) : ∃ v l, cs = [v] ∧ CellRow w v l := by
  obtain ⟨A, l, cap, rfl, h1, h2, h3, _, h4⟩ := rd_list (α := CellP) cell0 Tryz.underlying50 rc_Cell (by omega) (fun cs c => I64 c.col ∧ ∃ v, cs = [.int .i64 c.col, .bool c.neg, v] ∧ Nums w v c.limbs) (fun n cs x hx => rd_Cell hx) h
  refine ⟨_, l, rfl, A, cap, rfl, h1, h2, fun hp => ?_⟩
  obtain ⟨b, o, rfl, hcell⟩ := h4 hp
  refine ⟨b, o, rfl, fun i hi => ?_⟩
  obtain ⟨cs', _, ⟨hI, v, rfl, hn⟩, hj⟩ := hcell i hi
  exact ⟨v, hI, hj 0 (by omega), hj 1 (by omega), hj 2 (by omega), hn⟩

set_option maxRecDepth 100000 in
theorem rd_Row {fuel : Nat} {cs : List Value} {x : DataW H × List MemPlace} (h : DataW.trod enc Tryz.prog w base spare held fuel 52 cs = some x) : ∃ r, RowV w cs r := by
  obtain ⟨n, hl, hf⟩ := rd_struct Tryz.underlying52 h
  rw [rc_Row] at hl
  match cs, hl with
  | [c0, c1, c2, c3, c4, c5, c6], _ =>
  obtain ⟨y0, h0⟩ := rd_field hf 0 rfl (tt := 49) (o := 0) rfl rfl rc_Int
  have h0 : DataW.trod enc Tryz.prog w base spare held n 49 [c0, c1] = some y0 := h0
  obtain ⟨y1, h1⟩ := rd_field hf 1 rfl (tt := 50) (o := 2) rfl rfl rc_Cells
  have h1 : DataW.trod enc Tryz.prog w base spare held n 50 [c2] = some y1 := h1
  obtain ⟨y2, h2⟩ := rd_field hf 2 rfl (tt := 50) (o := 3) rfl rfl rc_Cells
  have h2 : DataW.trod enc Tryz.prog w base spare held n 50 [c3] = some y2 := h2
  obtain ⟨y3, h3⟩ := rd_field hf 3 rfl (tt := 50) (o := 4) rfl rfl rc_Cells
  have h3 : DataW.trod enc Tryz.prog w base spare held n 50 [c4] = some y3 := h3
  obtain ⟨y4, h4⟩ := rd_field hf 4 rfl (tt := 49) (o := 5) rfl rfl rc_Int
  have h4 : DataW.trod enc Tryz.prog w base spare held n 49 [c5, c6] = some y4 := h4
  obtain ⟨mn, vm, ml, hm, n0⟩ := rd_Int h0
  obtain ⟨va, la, ha, n1⟩ := rd_Cells h1
  obtain ⟨vh, lh, hh, n2⟩ := rd_Cells h2
  obtain ⟨vs, ls, hs, n3⟩ := rd_Cells h3
  obtain ⟨kn, vk, kl, hk, n4⟩ := rd_Int h4
  injection hm with e1 e2
  injection e2 with e2
  injection ha with e3
  injection hh with e4
  injection hs with e5
  injection hk with e6 e7
  injection e7 with e7
  subst e1 e2 e3 e4 e5 e6 e7
  exact ⟨⟨mn, ml, la, lh, ls, kn, kl⟩, _, _, _, _, _, rfl, n0, n1, n2, n3, n4⟩

theorem rd_Rows {fuel : Nat} {cs : List Value} {x : DataW H × List MemPlace} (h : DataW.trod enc Tryz.prog w base spare held fuel 36 cs = some x) : ∃ v l, cs = [v] ∧ SysRow w v l := by
  obtain ⟨A, l, cap, rfl, h1, h2, h3, _, h4⟩ := rd_list (α := RowP) row0 Tryz.underlying36 rc_Row (by omega) (fun cs r => RowV w cs r) (fun n cs x hx => rd_Row hx) h
  refine ⟨_, l, rfl, A, cap, rfl, h1, h2, fun hp => ?_⟩
  obtain ⟨b, o, rfl, hcell⟩ := h4 hp
  refine ⟨b, o, rfl, fun i hi => ?_⟩
  obtain ⟨cs', _, hr, hj⟩ := hcell i hi
  exact ⟨cs', hr, hj⟩

set_option maxRecDepth 100000 in
theorem rd_System {fuel : Nat} {cs : List Value} {x : DataW H × List MemPlace} (h : DataW.trod enc Tryz.prog w base spare held fuel 38 cs = some x) : ∃ v l, cs = [v] ∧ SysRow w v l := by
  obtain ⟨n, hl, hf⟩ := rd_struct Tryz.underlying38 h
  rw [rc_System] at hl
  match cs, hl with
  | [c0], _ =>
  obtain ⟨y0, h0⟩ := rd_field hf 0 rfl (tt := 36) (o := 0) rfl rfl rc_Rows
  have h0 : DataW.trod enc Tryz.prog w base spare held n 36 [c0] = some y0 := h0
  exact rd_Rows h0
end
end Go.Proofs.YtmfmfpmkgmkgiaaGreatDoor

namespace Go.Proofs.YtmfmfpmkgmkgiaaGreatDoor
open Go.RowKit Go.ChangeShapes Go.WideShapes Go.ChangeAt

theorem own : ownKnob Tryz.prog.godebug = none := by kernel_rfl
theorem laidOut : laidOutB Tryz.prog = true := by kernel_rfl
theorem rc_i64 : Tryz.prog.cellsOf 2 = 1 := by kernel_rfl
theorem glob_of {W : World} (h : W.ShapedOpen Tryz.prog) : GlobOK W :=
  cell_of_shapedOpen_int (g := 0) (t := 3) (zero := #[.int .i64 0]) h (of_decide_eq_true (by kernel_rfl)) (by kernel_rfl) rfl (by kernel_rfl) (by kernel_rfl) Tryz.underlying3
def acceptCells : Array Value := ((#[128, 191, 160, 191, 128, 159, 144, 191, 128, 143] : Array Int) ++ Array.replicate 22 0).map fun n => Value.int .u8 n
def firstCells : Array Value := (Go.Pinned.utf8FirstZ.map fun (n : Nat) => Value.int .u8 (Int.ofNat n)).toArray
def withCells (cs : Array Value) : Obj → Obj
  | .cells _ t frozen => .cells cs t frozen
  | o => o
noncomputable def laidWorld (os : Os) : World :=
  { World.holding Tryz.prog os ⟨#[], #[], []⟩ with heap := ((World.holding Tryz.prog os ⟨#[], #[], []⟩).heap.modify 1 (withCells firstCells)).modify 2 (withCells acceptCells) }
theorem weights_slice {H : Type} {P : Program} {t e : TypeId} (ht : P.underlying t = some (.slice e)) (es sp : List (DataW H)) : (es.length + sp.length) * P.bytesOf e ∈ DataW.weights P t (.slice es sp) := by
  simp [DataW.weights, ht]
theorem ints_reach {H : Type} {l : List Int} {d : DataW H} (h : l = [] ∨ ∃ es sp, d = .slice es sp ∧ es.length = l.length) (hw : ∀ x ∈ DataW.weights Tryz.prog 59 d, x ≤ reachBytes) : l.length ≤ 17592186044416 := by
  rcases h with rfl | ⟨es, sp, rfl, h⟩
  · simp
  · have := hw _ (weights_slice Tryz.underlying59 es sp)
    rw [show Tryz.prog.bytesOf 2 = 8 by kernel_rfl] at this
    have hr : reachBytes = 140737488351232 := rfl
    omega
end Go.Proofs.YtmfmfpmkgmkgiaaGreatDoor

namespace Go.Proofs.YtmfmfpmkgmkgiaaGreatDoor
open Go.RowKit Go.Maps

theorem Blk.three {w : World} {b : Nat} {x y z : Value} (h : Blk w b #[x, y, z]) : w.cell? ⟨b, 0, none⟩ = some x ∧ w.cell? ⟨b, 1, none⟩ = some y ∧ w.cell? ⟨b, 2, none⟩ = some z :=
  ⟨h.cell 0, h.cell 1, h.cell 2⟩

def noWaveB (kind : Int) (lv ls : Nat) : Bool := decide (kind = 0) && decide (lv + ls = 0)
set_option maxHeartbeats 40000000 in
theorem noWave_calls (w : World) (kind : Int) (A1 A2 : Option Addr) (lv ls c1 c2 : Nat) (h1 : lv ≤ 1099511627776000) (h2 : ls ≤ 1099511627776000) :
    Calls Tryz.prog 146 #[.agg #[.int .i64 kind, .slice A1 lv c1, .slice A2 ls c2]] w fun e w' => e = .returned (.bool (noWaveB kind lv ls)) ∧ w.grownBy w' none := by
  have gw := gb_alloc w (.cells #[.int .i64 kind, .slice A1 lv c1, .slice A2 ls c2] 85) none
  obtain ⟨m0, m1, m2⟩ := (Blk.new w #[.int .i64 kind, .slice A1 lv c1, .slice A2 ls c2] 85).three
  have HU : Hid (noWaveB kind lv ls = (decide (kind = 0) && decide (lv + ls = 0))) := Lib.hid rfl
  by_cases hk : kind = 0
  · subst hk
    go_enter Tryz.func146, Tryz.ntmps146
    go_wp2
    go_ret
    exact ⟨ret_bool (by rw [HU.out, Bool.eq_iff_iff]; simp; try omega), gw⟩
  · have t : (kind == 0) = false := by rw [beq_eq_false_iff_ne]; exact hk
    have HK := Lib.hid hk
    clear hk
    go_enter Tryz.func146, Tryz.ntmps146
    go_wp2
    go_ret
    exact ⟨ret_bool (by rw [HU.out]; simp [HK.out]), gw⟩

def noModelB (nm : ByteArray) (kind : Int) (lg lv : Nat) : Bool := decide (nm.data.toList = []) && decide (kind = 0) && decide (lg + lv = 0)
set_option maxHeartbeats 40000000 in
theorem noModel_calls (w : World) (nm : ByteArray) (kind : Int) (A1 A2 : Option Addr) (lg lv c1 c2 : Nat) (h1 : lg ≤ 1099511627776000) (h2 : lv ≤ 1099511627776000) :
    Calls Tryz.prog 145 #[.agg #[.string nm, .int .u8 kind, .slice A1 lg c1, .slice A2 lv c2]] w fun e w' => e = .returned (.bool (noModelB nm kind lg lv)) ∧ w.grownBy w' none := by
  have gw := gb_alloc w (.cells #[.string nm, .int .u8 kind, .slice A1 lg c1, .slice A2 lv c2] 87) none
  obtain ⟨m0, m1, m2, m3, _⟩ := (Blk.new w #[.string nm, .int .u8 kind, .slice A1 lg c1, .slice A2 lv c2] 87).four
  have HU : Hid (noModelB nm kind lg lv = (decide (nm.data.toList = []) && decide (kind = 0) && decide (lg + lv = 0))) := Lib.hid rfl
  have hE : nm.toList = nm.data.toList := Lib.toList_data nm
  by_cases he : nm.toList = []
  · have HE : Hid (nm.data.toList = []) := Lib.hid (by rw [← hE]; exact he)
    have he' : nm.toList.isEmpty = true := by rw [he]; rfl
    clear hE
    by_cases hk : kind = 0
    · subst hk
      go_enter Tryz.func145, Tryz.ntmps145
      go_wp2
      go_ret
      exact ⟨ret_bool (by rw [HU.out, HE.out, Bool.eq_iff_iff]; simp; try omega), gw⟩
    · have t : (kind == 0) = false := by rw [beq_eq_false_iff_ne]; exact hk
      have HK := Lib.hid hk
      clear hk
      go_enter Tryz.func145, Tryz.ntmps145
      go_wp2
      go_ret
      exact ⟨ret_bool (by rw [HU.out]; simp [HK.out]), gw⟩
  · have HE : Hid (¬ nm.data.toList = []) := Lib.hid (by rw [← hE]; exact he)
    have he' : nm.toList.isEmpty = false := by rw [List.isEmpty_eq_false_iff]; exact he
    clear hE
    go_enter Tryz.func145, Tryz.ntmps145
    go_wp2
    go_ret
    exact ⟨ret_bool (by rw [HU.out]; simp [HE.out]), gw⟩

/-! ### devices as data -/
structure DevP where
  kind : Int
  name : ByteArray
  nodes : List Int
  ref : Int
  val : Int × Int
  wkind : Int
  wvals : List (Int × Int)
  wsteps : List Int
  mname : ByteArray
  mkind : Int
  mg : List (Int × Int)
  mv : List (Int × Int)
def dev0 : DevP := ⟨0, ByteArray.empty, [], 0, (0, 0), 0, [], [], ByteArray.empty, 0, [], []⟩
def DevP.small (d : DevP) : Prop := d.nodes.length ≤ 140737488355328 ∧ d.wvals.length ≤ 140737488355328 ∧ d.wsteps.length ≤ 140737488355328 ∧ d.mg.length ≤ 140737488355328 ∧ d.mv.length ≤ 140737488355328
def DevV (w : World) (cs : List Value) (d : DevP) : Prop :=
  (0 ≤ d.kind ∧ d.kind ≤ 255) ∧ (0 ≤ d.mkind ∧ d.mkind ≤ 255) ∧ I64 d.ref ∧ I64 d.val.1 ∧ I64 d.val.2 ∧ I64 d.wkind ∧ d.name.size < 4294967281 ∧ d.small ∧
  ∃ vn vv vs vg vm, cs = [.int .u8 d.kind, .string d.name, vn, .int .i64 d.ref, .int .i64 d.val.1, .int .i64 d.val.2, .int .i64 d.wkind, vv, vs, .string d.mname, .int .u8 d.mkind, vg, vm] ∧
    IntRow w vn d.nodes ∧ NumRow w vv d.wvals ∧ IntRow w vs d.wsteps ∧ NumRow w vg d.mg ∧ NumRow w vm d.mv
theorem DevV.more {w w' : World} {cs : List Value} {d : DevP} (h : DevV w cs d) (hg : w.grownBy w' none) : DevV w' cs d := by
  obtain ⟨a1, a2, a3, a4, a5, a6, a7, a8, vn, vv, vs, vg, vm, e, h1, h2, h3, h4, h5⟩ := h
  exact ⟨a1, a2, a3, a4, a5, a6, a7, a8, vn, vv, vs, vg, vm, e, h1.more hg, h2.more hg, h3.more hg, h4.more hg, h5.more hg⟩
def DevRow (w : World) (v : Value) (l : List DevP) : Prop :=
  ∃ A c, v = .slice A l.length c ∧ l.length ≤ c ∧ c ≤ 9223372036854775807 ∧
    (0 < l.length → ∃ b o, A = some ⟨b, o, none⟩ ∧ ∀ i, i < l.length → ∃ cs, DevV w cs (l.getD i dev0) ∧ ∀ j, j < 13 → w.cell? ⟨b, o + i * 13 + j, none⟩ = cs[j]?)
theorem DevRow.more {w w' : World} {v : Value} {l : List DevP} (h : DevRow w v l) (hg : w.grownBy w' none) : DevRow w' v l := by
  obtain ⟨A, c, rfl, h1, h2, h4⟩ := h
  refine ⟨A, c, rfl, h1, h2, fun hp => ?_⟩
  obtain ⟨b, o, rfl, hc⟩ := h4 hp
  refine ⟨b, o, rfl, fun i hi => ?_⟩
  obtain ⟨cs, hr, hcell⟩ := hc i hi
  refine ⟨cs, hr.more hg, fun j hj => ?_⟩
  have hl : cs.length = 13 := by obtain ⟨_, _, _, _, _, _, _, _, _, _, _, _, _, rfl, _⟩ := hr; rfl
  have e := hcell j hj
  rw [List.getElem?_eq_getElem (by omega)] at e ⊢
  exact gb_cell hg e (by simp)
theorem DevRow.ctor {w : World} {v : Value} {l : List DevP} (h : DevRow w v l) : ∃ A c, v = .slice A l.length c ∧ l.length ≤ c ∧ c ≤ 9223372036854775807 := by
  obtain ⟨A, c, rfl, h1, h2, _⟩ := h
  exact ⟨A, c, rfl, h1, h2⟩
def devVals (d : DevP) (An : Option Addr) (cn : Nat) (Av : Option Addr) (cv : Nat) (As : Option Addr) (cs : Nat) (Ag : Option Addr) (cg : Nat) (Am : Option Addr) (cm : Nat) : List Value :=
  [.int .u8 d.kind, .string d.name, .slice An d.nodes.length cn, .int .i64 d.ref, .int .i64 d.val.1, .int .i64 d.val.2, .int .i64 d.wkind, .slice Av d.wvals.length cv, .slice As d.wsteps.length cs, .string d.mname, .int .u8 d.mkind, .slice Ag d.mg.length cg, .slice Am d.mv.length cm]
structure DevAt (w : World) (d : DevP) (An : Option Addr) (cn : Nat) (Av : Option Addr) (cv : Nat) (As : Option Addr) (cs : Nat) (Ag : Option Addr) (cg : Nat) (Am : Option Addr) (cm : Nat) : Prop where
  kind : 0 ≤ d.kind ∧ d.kind ≤ 255
  mkind : 0 ≤ d.mkind ∧ d.mkind ≤ 255
  ref : I64 d.ref
  v1 : I64 d.val.1
  v2 : I64 d.val.2
  wkind : I64 d.wkind
  name : d.name.size < 4294967281
  small : d.small
  nodes : IntRow w (.slice An d.nodes.length cn) d.nodes
  vals : NumRow w (.slice Av d.wvals.length cv) d.wvals
  steps : IntRow w (.slice As d.wsteps.length cs) d.wsteps
  g : NumRow w (.slice Ag d.mg.length cg) d.mg
  v : NumRow w (.slice Am d.mv.length cm) d.mv
theorem NumRow.ctor {w : World} {v : Value} {l : List (Int × Int)} (h : NumRow w v l) : ∃ A c, v = .slice A l.length c ∧ l.length ≤ c ∧ c ≤ 9223372036854775807 := by
  obtain ⟨A, c, rfl, h1, h2, _⟩ := h
  exact ⟨A, c, rfl, h1, h2⟩
theorem DevAt.more {w w' : World} {d : DevP} {An Av As Ag Am : Option Addr} {cn cv cs cg cm : Nat} (h : DevAt w d An cn Av cv As cs Ag cg Am cm) (hg : w.grownBy w' none) : DevAt w' d An cn Av cv As cs Ag cg Am cm :=
  ⟨h.kind, h.mkind, h.ref, h.v1, h.v2, h.wkind, h.name, h.small, h.nodes.more hg, h.vals.more hg, h.steps.more hg, h.g.more hg, h.v.more hg⟩
theorem DevV.open {w : World} {cs : List Value} {d : DevP} (h : DevV w cs d) : ∃ An cn Av cv As cs' Ag cg Am cm, cs = devVals d An cn Av cv As cs' Ag cg Am cm ∧ DevAt w d An cn Av cv As cs' Ag cg Am cm := by
  obtain ⟨a1, a2, a3, a4, a5, a6, a7, a8, vn, vv, vs, vg, vm, e, h1, h2, h3, h4, h5⟩ := h
  obtain ⟨An, cn, rfl, _⟩ := h1.ctor
  obtain ⟨Av, cv, rfl, _⟩ := h2.ctor
  obtain ⟨As, cs', rfl, _⟩ := h3.ctor
  obtain ⟨Ag, cg, rfl, _⟩ := h4.ctor
  obtain ⟨Am, cm, rfl, _⟩ := h5.ctor
  exact ⟨An, cn, Av, cv, As, cs', Ag, cg, Am, cm, e, a1, a2, a3, a4, a5, a6, a7, a8, h1, h2, h3, h4, h5⟩
theorem DevRow.at {w : World} {A : Option Addr} {n c : Nat} {l : List DevP} (h : DevRow w (.slice A n c) l) {i : Nat} (hi : i < l.length) :
    ∃ b o An cn Av cv As cs Ag cg Am cm, A = some ⟨b, o, none⟩ ∧ DevAt w (l.getD i dev0) An cn Av cv As cs Ag cg Am cm ∧
      ∀ j, j < 13 → w.cell? ⟨b, o + i * 13 + j, none⟩ = (devVals (l.getD i dev0) An cn Av cv As cs Ag cg Am cm)[j]? := by
  obtain ⟨A0, c0, he, h1, h2, h4⟩ := h
  injection he with e1 e2 e3
  subst e1
  obtain ⟨b, o, rfl, hc⟩ := h4 (by omega)
  obtain ⟨cs, hv, hcell⟩ := hc i hi
  obtain ⟨An, cn, Av, cv, As, cs', Ag, cg, Am, cm, rfl, hd⟩ := hv.open
  exact ⟨b, o, An, cn, Av, cv, As, cs', Ag, cg, Am, cm, rfl, hd, hcell⟩

end Go.Proofs.YtmfmfpmkgmkgiaaGreatDoor

namespace Go.Proofs.YtmfmfpmkgmkgiaaGreatDoor
open Go.RowKit Go.Maps

structure DevCells (w : World) (b o : Nat) (d : DevP) (An : Option Addr) (cn : Nat) (Av : Option Addr) (cv : Nat) (As : Option Addr) (cs : Nat) (Ag : Option Addr) (cg : Nat) (Am : Option Addr) (cm : Nat) : Prop where
  c0 : w.cell? ⟨b, o, none⟩ = some (.int .u8 d.kind)
  c1 : w.cell? ⟨b, o + 1, none⟩ = some (.string d.name)
  c2 : w.cell? ⟨b, o + 2, none⟩ = some (.slice An d.nodes.length cn)
  c3 : w.cell? ⟨b, o + 3, none⟩ = some (.int .i64 d.ref)
  c4 : w.cell? ⟨b, o + 4, none⟩ = some (.int .i64 d.val.1)
  c5 : w.cell? ⟨b, o + 5, none⟩ = some (.int .i64 d.val.2)
  c6 : w.cell? ⟨b, o + 6, none⟩ = some (.int .i64 d.wkind)
  c7 : w.cell? ⟨b, o + 7, none⟩ = some (.slice Av d.wvals.length cv)
  c8 : w.cell? ⟨b, o + 8, none⟩ = some (.slice As d.wsteps.length cs)
  c9 : w.cell? ⟨b, o + 9, none⟩ = some (.string d.mname)
  c10 : w.cell? ⟨b, o + 10, none⟩ = some (.int .u8 d.mkind)
  c11 : w.cell? ⟨b, o + 11, none⟩ = some (.slice Ag d.mg.length cg)
  c12 : w.cell? ⟨b, o + 12, none⟩ = some (.slice Am d.mv.length cm)
theorem DevRow.at2 {w : World} {A : Option Addr} {n c : Nat} {l : List DevP} (h : DevRow w (.slice A n c) l) {i : Nat} (hi : i < l.length) :
    ∃ b o An cn Av cv As cs Ag cg Am cm, A = some ⟨b, o, none⟩ ∧ DevAt w (l.getD i dev0) An cn Av cv As cs Ag cg Am cm ∧ DevCells w b (o + i * 13) (l.getD i dev0) An cn Av cv As cs Ag cg Am cm := by
  obtain ⟨b, o, An, cn, Av, cv, As, cs, Ag, cg, Am, cm, e, h1, h2⟩ := h.at hi
  exact ⟨b, o, An, cn, Av, cv, As, cs, Ag, cg, Am, cm, e, h1, h2 0 (by omega), h2 1 (by omega), h2 2 (by omega), h2 3 (by omega), h2 4 (by omega), h2 5 (by omega), h2 6 (by omega), h2 7 (by omega), h2 8 (by omega), h2 9 (by omega), h2 10 (by omega), h2 11 (by omega), h2 12 (by omega)⟩
structure DevBox (w : World) (b : Nat) (d : DevP) (An : Option Addr) (cn : Nat) (Av : Option Addr) (cv : Nat) (As : Option Addr) (cs : Nat) (Ag : Option Addr) (cg : Nat) (Am : Option Addr) (cm : Nat) : Prop where
  c0 : w.cell? ⟨b, 0, none⟩ = some (.int .u8 d.kind)
  c1 : w.cell? ⟨b, 1, none⟩ = some (.string d.name)
  c2 : w.cell? ⟨b, 2, none⟩ = some (.slice An d.nodes.length cn)
  c3 : w.cell? ⟨b, 3, none⟩ = some (.int .i64 d.ref)
  c4 : w.cell? ⟨b, 4, none⟩ = some (.int .i64 d.val.1)
  c5 : w.cell? ⟨b, 5, none⟩ = some (.int .i64 d.val.2)
  c6 : w.cell? ⟨b, 6, none⟩ = some (.int .i64 d.wkind)
  c7 : w.cell? ⟨b, 7, none⟩ = some (.slice Av d.wvals.length cv)
  c8 : w.cell? ⟨b, 8, none⟩ = some (.slice As d.wsteps.length cs)
  c9 : w.cell? ⟨b, 9, none⟩ = some (.string d.mname)
  c10 : w.cell? ⟨b, 10, none⟩ = some (.int .u8 d.mkind)
  c11 : w.cell? ⟨b, 11, none⟩ = some (.slice Ag d.mg.length cg)
  c12 : w.cell? ⟨b, 12, none⟩ = some (.slice Am d.mv.length cm)
theorem DevBox.of {w : World} {b : Nat} {d : DevP} {An Av As Ag Am : Option Addr} {cn cv cs cg cm : Nat} (h : Blk w b #[.int .u8 d.kind, .string d.name, .slice An d.nodes.length cn, .int .i64 d.ref, .int .i64 d.val.1, .int .i64 d.val.2, .int .i64 d.wkind, .slice Av d.wvals.length cv, .slice As d.wsteps.length cs, .string d.mname, .int .u8 d.mkind, .slice Ag d.mg.length cg, .slice Am d.mv.length cm]) : DevBox w b d An cn Av cv As cs Ag cg Am cm :=
  ⟨h.cell 0, h.cell 1, h.cell 2, h.cell 3, h.cell 4, h.cell 5, h.cell 6, h.cell 7, h.cell 8, h.cell 9, h.cell 10, h.cell 11, h.cell 12⟩
theorem DevBox.more {w w' : World} {b : Nat} {d : DevP} {An Av As Ag Am : Option Addr} {cn cv cs cg cm : Nat} (h : DevBox w b d An cn Av cv As cs Ag cg Am cm) (hg : w.grownBy w' none) : DevBox w' b d An cn Av cv As cs Ag cg Am cm :=
  ⟨gb_cell hg h.c0 (by simp), gb_cell hg h.c1 (by simp), gb_cell hg h.c2 (by simp), gb_cell hg h.c3 (by simp), gb_cell hg h.c4 (by simp), gb_cell hg h.c5 (by simp), gb_cell hg h.c6 (by simp), gb_cell hg h.c7 (by simp), gb_cell hg h.c8 (by simp), gb_cell hg h.c9 (by simp), gb_cell hg h.c10 (by simp), gb_cell hg h.c11 (by simp), gb_cell hg h.c12 (by simp)⟩
theorem gb_from {a b c : World} {v : Value} (h : a.grownBy b none) (k : b.grownBy c v.ownBlock) (hf : From a.heap.size v) : a.grownBy c none :=
  ⟨k.os.trans h.os, k.tape.trans h.tape, k.output.trans h.output, Nat.le_trans h.size k.size, fun i hi _ =>
    (k.block i (Nat.lt_of_lt_of_le hi h.size) (fun e => by have := hf i e.symm; omega)).trans (h.block i hi (by simp))⟩
theorem intinfo : (Tryz.prog.info? 3).map (fun i => (i.zero, i.size, i.bytes)) = some (some (.int .i64 0), 1, 8) := by kernel_rfl
def isBr (k : Int) : Bool := decide (k = 118) || decide (k = 101) || decide (k = 104) || decide (k = 99) || decide (k = 108) || decide (k = 116)
theorem indexBr (k : Int) (h0 : 0 ≤ k) (h1 : k ≤ 255) : decide (0 ≤ Lib.indexByte [118, 101, 104, 99, 108, 116] k.toNat.toUInt8) = isBr k := by
  have h : ∀ n : Fin 256, decide (0 ≤ Lib.indexByte [118, 101, 104, 99, 108, 116] (n.val : Int).toNat.toUInt8) = isBr (n.val : Int) := by decide +kernel
  have := h ⟨k.toNat, by omega⟩
  simp only [show ((k.toNat : Nat) : Int) = k by omega] at this
  exact this
def nbr (ds : List DevP) (t : Nat) : Nat := ((ds.take t).filter fun d => isBr d.kind).length
theorem nbr_le (ds : List DevP) (t : Nat) : nbr ds t ≤ t := Nat.le_trans (List.length_filter_le _ _) (List.length_take_le _ _)
theorem nbr_succ {ds : List DevP} {t : Nat} (h : t < ds.length) : nbr ds (t + 1) = nbr ds t + (if isBr (ds.getD t dev0).kind then 1 else 0) := by
  unfold nbr
  rw [List.take_succ_eq_append_getElem h, List.filter_append, List.length_append]
  have : ds.getD t dev0 = ds[t] := by simp [List.getD, List.getElem?_eq_getElem h]
  rw [this]
  by_cases hb : isBr ds[t].kind = true <;> simp [hb, List.filter_cons]
def brAt (ds : List DevP) (n0 : Int) (i : Nat) : Int := if isBr (ds.getD i dev0).kind then n0 + nbr ds i else -1
def brs (ds : List DevP) (n0 : Int) (t : Nat) : List Int := (List.range t).map (brAt ds n0)
theorem brs_length (ds : List DevP) (n0 : Int) (t : Nat) : (brs ds n0 t).length = t := by simp [brs]
theorem brs_succ (ds : List DevP) (n0 : Int) (t : Nat) : brs ds n0 (t + 1) = brs ds n0 t ++ [brAt ds n0 t] := by simp [brs, List.range_succ]
theorem ints_append (l r : List Int) : ints (l ++ r) = ints l ++ ints r := by simp [ints]

set_option maxRecDepth 100000 in
set_option maxHeartbeats 40000000 in
theorem count_calls (w : World) (vn vd : Value) (s1 s2 me : Int) (nodes : List ByteArray) (ds : List DevP) (hn : Row w vn (strs nodes)) (hd : DevRow w vd ds) (hl1 : nodes.length ≤ 1099511627776) (hl2 : ds.length ≤ 1099511627776) :
    Calls Tryz.prog 92 #[.agg #[vn, vd, .int .i64 s1, .int .i64 s2, .int .i64 me]] w fun e w' => ∃ v, e = .returned (.tuple #[.int .i64 ((nodes.length : Int) - 1 + nbr ds ds.length), v]) ∧ Row w' v (ints (brs ds ((nodes.length : Int) - 1) ds.length)) ∧ From w.heap.size v ∧ w.grownBy w' none := by
  have HD := Lib.hid hd
  obtain ⟨A1, c1, rfl, a1, a2, _⟩ := hn
  obtain ⟨A2, c2, rfl, b1, b2⟩ := hd.ctor
  rw [strs_length] at *
  clear hd
  have gw := gb_alloc w (.cells #[.slice A1 nodes.length c1, .slice A2 ds.length c2, .int .i64 s1, .int .i64 s2, .int .i64 me] 27) none
  have hB := Blk.new w #[.slice A1 nodes.length c1, .slice A2 ds.length c2, .int .i64 s1, .int .i64 s2, .int .i64 me] 27
  have m0 : (w.alloc (.cells #[.slice A1 nodes.length c1, .slice A2 ds.length c2, .int .i64 s1, .int .i64 s2, .int .i64 me] 27)).cell? ⟨w.heap.size, 0, none⟩ = some (.slice A1 nodes.length c1) := hB.cell 0
  have m1 : (w.alloc (.cells #[.slice A1 nodes.length c1, .slice A2 ds.length c2, .int .i64 s1, .int .i64 s2, .int .i64 me] 27)).cell? ⟨w.heap.size, 1, none⟩ = some (.slice A2 ds.length c2) := hB.cell 1
  have hs1 := gw.size
  go_enter Tryz.func92, Tryz.ntmps92
  go_wp2_with fail
  generalize w.alloc (.cells #[.slice A1 nodes.length c1, .slice A2 ds.length c2, .int .i64 s1, .int .i64 s2, .int .i64 me] 27) = wa at *
  generalize hsz : w.heap.size = s at *
  go_loopw [4, 5, 16] (fun n v i wr => ∃ k : Nat, k ≤ ds.length ∧ i = .int .i64 k ∧ n = .int .i64 ((nodes.length : Int) - 1 + (nbr ds k : Nat)) ∧ wr.ownsRow wa.heap.size 3 1 v k (ints (brs ds ((nodes.length : Int) - 1) k)) ∧ wa.grownBy wr none) (fun _ _ i _ => (ds.length - intOf i).toNat)
  case atStart => exact ⟨0, by omega, rfl, by simp [nbr], World.ownsRow_nil _ _ _ _, gb_refl _ _⟩
  case round =>
    obtain ⟨k, hk, rfl, rfl, hown, hg⟩ := hrel
    have hnb := nbr_le ds k
    by_cases hlt : k < ds.length
    · obtain ⟨b, o, An, cn, Av, cv, As, cs, Ag, cg, Am, cm, rfl, hat, hc⟩ := (HD.out.more (gb_trans gw hg)).at2 hlt
      have hbs := brs_succ ds ((nodes.length : Int) - 1) k
      have hnsu := nbr_succ hlt
      have hbr : brAt ds ((nodes.length : Int) - 1) k = if isBr (ds.getD k dev0).kind then ((nodes.length : Int) - 1) + nbr ds k else -1 := rfl
      generalize ds.getD k dev0 = d at *
      obtain ⟨q0, q1, q2, q3, q4, q5, q6, q7, q8, q9, q10, q11, q12⟩ := hc
      have ga := gb_alloc wr (.cells #[.int .u8 d.kind, .string d.name, .slice An d.nodes.length cn, .int .i64 d.ref, .int .i64 d.val.1, .int .i64 d.val.2, .int .i64 d.wkind, .slice Av d.wvals.length cv, .slice As d.wsteps.length cs, .string d.mname, .int .u8 d.mkind, .slice Ag d.mg.length cg, .slice Am d.mv.length cm] 89) none
      obtain ⟨p0, -, -, -, -, -, -, -, -, -, -, -, -⟩ := DevBox.of (Blk.new wr #[.int .u8 d.kind, .string d.name, .slice An d.nodes.length cn, .int .i64 d.ref, .int .i64 d.val.1, .int .i64 d.val.2, .int .i64 d.wkind, .slice Av d.wvals.length cv, .slice As d.wsteps.length cs, .string d.mname, .int .u8 d.mkind, .slice Ag d.mg.length cg, .slice Am d.mv.length cm] 89)
      have hix := Tryz.strings_IndexByte ⟨#[118, 101, 104, 99, 108, 116]⟩ d.kind
      have hib := indexBr d.kind hat.kind.1 hat.kind.2
      have hown2 := hown.alloc (.cells #[.int .u8 d.kind, .string d.name, .slice An d.nodes.length cn, .int .i64 d.ref, .int .i64 d.val.1, .int .i64 d.val.2, .int .i64 d.wkind, .slice Av d.wvals.length cv, .slice As d.wsteps.length cs, .string d.mname, .int .u8 d.mkind, .slice Ag d.mg.length cg, .slice Am d.mv.length cm] 89)
      have HIX := Lib.hid hix
      have HBS := Lib.hid hbs
      clear hix hbs
      cases hb : isBr d.kind with
      | true =>
        rw [hb] at hib hnsu hbr
        rw [if_pos rfl] at hnsu hbr
        have HB := Lib.hid (And.intro hnsu hbr)
        have HI := Lib.hid (of_decide_eq_true hib)
        clear hnsu hbr hib hb
        go_wp2_with fail
        generalize wr.alloc (.cells #[.int .u8 d.kind, .string d.name, .slice An d.nodes.length cn, .int .i64 d.ref, .int .i64 d.val.1, .int .i64 d.val.2, .int .i64 d.wkind, .slice Av d.wvals.length cv, .slice As d.wsteps.length cs, .string d.mname, .int .u8 d.mkind, .slice Ag d.mg.length cg, .slice Am d.mv.length cm] 89) = wb at *
        refine (HIX.out _).mono ?_
        rintro e w1 ⟨rfl, rfl⟩
        generalize Lib.indexByte _ _ = z at *
        have hi := HI.out
        have hsb := (gb_trans hg ga).size
        go_wp2_with (first
          | (at_builtin; refine app_one wa.heap.size rfl (.tmp 27) (.tmp 29) 30 3 (.int .i64 0) 1 8 rfl Tryz.underlying30 intinfo rfl (by omega) (by omega) u5 k (ints (brs ds ((nodes.length : Int) - 1) k)) #[.int .i64 ((nodes.length : Int) - 1 + (nbr ds k : Nat))] (by rfl) hown2 (by rfl) rfl (by simp [Value.oneCell']) (by omega) (by omega) ?_; intro v1 w1 hown1 hg1 hat1)
          | go_in)
        go_roundw
        case rel => exact ⟨k + 1, by omega, by go_num, num_eq (by rw [HB.out.1]; omega), by rw [HBS.out, HB.out.2, ints_append]; exact hown1, gb_from (gb_trans hg ga) hg1 (own_from hown2)⟩
        case measure => simp [intOf]; omega
      | false =>
        rw [hb] at hib hnsu hbr
        rw [if_neg (by simp)] at hnsu hbr
        have HB := Lib.hid (And.intro hnsu hbr)
        have HI := Lib.hid (of_decide_eq_false hib)
        clear hnsu hbr hib hb
        go_wp2_with fail
        generalize wr.alloc (.cells #[.int .u8 d.kind, .string d.name, .slice An d.nodes.length cn, .int .i64 d.ref, .int .i64 d.val.1, .int .i64 d.val.2, .int .i64 d.wkind, .slice Av d.wvals.length cv, .slice As d.wsteps.length cs, .string d.mname, .int .u8 d.mkind, .slice Ag d.mg.length cg, .slice Am d.mv.length cm] 89) = wb at *
        refine (HIX.out _).mono ?_
        rintro e w1 ⟨rfl, rfl⟩
        generalize Lib.indexByte _ _ = z at *
        have hi := HI.out
        have hsb := (gb_trans hg ga).size
        go_wp2_with (first
          | (at_builtin; refine app_one wa.heap.size rfl (.tmp 27) (.tmp 29) 30 3 (.int .i64 0) 1 8 rfl Tryz.underlying30 intinfo rfl (by omega) (by omega) u5 k (ints (brs ds ((nodes.length : Int) - 1) k)) #[.int .i64 (-1)] (by rfl) hown2 (by rfl) rfl (by simp [Value.oneCell']) (by omega) (by omega) ?_; intro v1 w1 hown1 hg1 hat1)
          | go_in)
        go_roundw
        case rel => exact ⟨k + 1, by omega, by go_num, num_eq (by rw [HB.out.1]; omega), by rw [HBS.out, HB.out.2, ints_append]; exact hown1, gb_from (gb_trans hg ga) hg1 (own_from hown2)⟩
        case measure => simp [intOf]; omega
    · obtain rfl : k = ds.length := by omega
      have hr := own_row hown
      have hf := own_from hown
      have HR := Lib.hid hr
      clear hr
      go_wp2
      go_ret2
      exact ⟨_, rfl, HR.out, hf.mono (by omega), gb_trans gw hg⟩

end Go.Proofs.YtmfmfpmkgmkgiaaGreatDoor
