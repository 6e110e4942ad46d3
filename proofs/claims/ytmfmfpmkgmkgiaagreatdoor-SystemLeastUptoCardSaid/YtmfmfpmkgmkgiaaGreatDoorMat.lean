/- Contracts of the program's functions, and what they rest on: SumB SumC. -/
import Derived.Test.YtmfmfpmkgmkgiaaGreatDoorMas
import Derived.Maps.OwnSet
import Derived.Maps.RangeWalk
import Derived.Test.YtmfmfpmkgmkgiaaGreatDoorMae
import Derived.Test.YtmfmfpmkgmkgiaaGreatDoorMaf
set_option linter.unusedVariables false
set_option linter.unusedSimpArgs false
namespace Go.Proofs.YtmfmfpmkgmkgiaaGreatDoor
open Go.RowKit Go.Maps
open Rat

theorem lawI : Keyed Tryz.prog 3 := int_keyed Tryz.underlying3
theorem zeroP (w : World) : (zeroValue 175).run Tryz.prog w = .ok (.pointer none) w := by kernel_rfl
def ptrElem : Value → Option (DataW Unit × List MemPlace)
  | .pointer (some ⟨b, 0, none⟩) => some (.lit (.int .u64 b), [])
  | .pointer none => some (.agg [], [])
  | _ => none
def ptrOf : Option Nat → Value
  | some b => .pointer (some ⟨b, 0, none⟩)
  | none => .pointer none
theorem ptrElem_inv {v : Value} {y : DataW Unit × List MemPlace} (h : ptrElem v = some y) : ∃ o, v = ptrOf o ∧ y = ((match o with | some b => .lit (.int .u64 (b : Nat)) | none => .agg []), []) := by
  unfold ptrElem at h
  split at h
  · rename_i b; exact ⟨some b, rfl, by injection h with h; exact h.symm⟩
  · exact ⟨none, rfl, by injection h with h; exact h.symm⟩
  · cases h
theorem ptrElem_lit {v : Value} {b : Nat} {ps : List MemPlace} (h : ptrElem v = some (.lit (.int .u64 (b : Nat)), ps)) : v = .pointer (some ⟨b, 0, none⟩) := by
  obtain ⟨o, rfl, e⟩ := ptrElem_inv h
  cases o with
  | none => injection e with e; cases e
  | some b' =>
    injection e with e _
    injection e with e
    injection e with _ e
    have : b = b' := by omega
    subst this; rfl
theorem ptrElem_nil {v : Value} {ps : List MemPlace} (h : ptrElem v = some (.agg [], ps)) : v = .pointer none := by
  obtain ⟨o, rfl, e⟩ := ptrElem_inv h
  cases o with
  | none => rfl
  | some b' => injection e with e; cases e

theorem wf_i64 {c : Int} (h : I64 c) : (Lit.int .i64 c).wf = true := by
  have h1 := h.1; have h2 := h.2
  simp [Lit.wf, IntKind.min, IntKind.max, IntKind.bits, IntKind.signed]
  omega
theorem i64_wf {c : Int} (h : (Lit.int .i64 c).wf = true) : I64 c := by
  simp [Lit.wf, IntKind.min, IntKind.max, IntKind.bits, IntKind.signed] at h
  constructor <;> omega
def MapB (w : World) (mb N : Nat) (F : Int → Option Nat) : Prop :=
  (∀ c b, F c = some b → I64 c) ∧ ∃ D, w.ownsMap Tryz.prog 3 ptrElem mb N D ∧ ∀ c, I64 c → Maps.has D (.int .i64 c) = (F c).isSome ∧ ∀ b, F c = some b → ∀ z, D.atKey (.int .i64 c) z = .lit (.int .u64 (b : Nat))
def putF (F : Int → Option Nat) (c : Int) (b : Nat) : Int → Option Nat := fun d => if d = c then some b else F d
theorem MapB.lt {w : World} {mb N : Nat} {F : Int → Option Nat} (h : MapB w mb N F) : mb < w.heap.size := by
  obtain ⟨_, D, h, _⟩ := h; exact h.lt
theorem MapB.obj {w : World} {mb N : Nat} {F : Int → Option Nat} (h : MapB w mb N F) : ∃ es cl, w.heap[mb]? = some (.map es cl) := by
  obtain ⟨_, D, ⟨es, cl, h, _⟩, _⟩ := h; exact ⟨es, cl, h⟩
theorem MapB.mono {w : World} {mb N M : Nat} {F : Int → Option Nat} (h : MapB w mb N F) (hn : N ≤ M) : MapB w mb M F := by
  obtain ⟨h0, D, h, h2⟩ := h; exact ⟨h0, D, h.mono hn, h2⟩
theorem MapB.kept {w w' : World} {row : Option Nat} {mb N : Nat} {F : Int → Option Nat} (h : MapB w mb N F) (hg : w.grownBy w' row) (hne : some mb ≠ row) : MapB w' mb N F := by
  obtain ⟨h0, D, h, h2⟩ := h; exact ⟨h0, D, h.kept hg hne, h2⟩
theorem MapB.made (w : World) : MapB (w.alloc (.map #[] 0)) w.heap.size 0 (fun _ => none) :=
  ⟨fun _ _ h => (by cases h), DataW.map [], World.ownsMap_made _ _ _ _, fun c _ => ⟨rfl, fun _ h => (by cases h)⟩⟩
theorem MapB.put {w : World} {mb N b : Nat} {F : Int → Option Nat} {c : Int} (h : MapB w mb N F) (hc : I64 c) (hn : N < maxLen) :
    ∃ w', (Instr.mapUpdate 112 (.map (some mb)) (.int .i64 c) (.pointer (some ⟨b, 0, none⟩))).run Tryz.prog w = .ok () w' ∧ MapB w' mb (N + 1) (putF F c b) ∧ w.grownBy w' (some mb) := by
  obtain ⟨h0, D, h, h2⟩ := h
  obtain ⟨w', hr, ho, hg⟩ := h.update (d := .lit (.int .u64 (b : Nat))) (ps := []) lawI Tryz.underlying112 hn (keyOf_int_mk Tryz.underlying3 (wf_i64 hc)) (val := .pointer (some ⟨b, 0, none⟩)) rfl
  have hm := h.isMap
  refine ⟨w', hr, ⟨fun d b' hd => ?_, _, ho, fun d hd => ?_⟩, hg⟩
  · unfold putF at hd
    split at hd
    · rename_i e; subst e; exact hc
    · exact h0 d b' hd
  · by_cases e : d = c
    · subst e
      refine ⟨by rw [has_put_same hm (show WideAt.IsKeyLit (Lit.int .i64 d) from trivial)]; simp [putF], fun b' hb z => ?_⟩
      rw [atKey_put_same hm (show WideAt.IsKeyLit (Lit.int .i64 d) from trivial)]
      simp [putF] at hb
      subst hb; rfl
    · have hne : (Lit.int .i64 d) ≠ .int .i64 c := fun hh => e (by injection hh)
      refine ⟨by rw [has_put_other hne, (h2 d hd).1]; simp [putF, e], fun b' hb z => ?_⟩
      rw [atKey_put_other hne]
      simp [putF, e] at hb
      exact (h2 d hd).2 b' hb z
theorem MapB.look {w : World} {mb N : Nat} {F : Int → Option Nat} {c : Int} (h : MapB w mb N F) (hc : I64 c) :
    (Instr.lookup 112 (.map (some mb)) (.int .i64 c) true).run Tryz.prog w = .ok (.tuple #[ptrOf (F c), .bool (F c).isSome]) w ∧
      (Instr.lookup 112 (.map (some mb)) (.int .i64 c) false).run Tryz.prog w = .ok (ptrOf (F c)) w := by
  obtain ⟨h0, D, h, h2⟩ := h
  obtain ⟨h3, h4⟩ := h2 c hc
  obtain ⟨v, ps, hr, hv⟩ := h.look_ok lawI Tryz.underlying112 (zeroP w) (zd := .agg []) (zp := []) rfl (keyOf_int_mk Tryz.underlying3 (wf_i64 hc))
  obtain ⟨v2, ps2, hr2, hv2⟩ := h.lookup lawI Tryz.underlying112 (zeroP w) (zd := .agg []) (zp := []) rfl (keyOf_int_mk Tryz.underlying3 (wf_i64 hc))
  have key : ∀ v ps, ptrElem v = some (D.atKey (.int .i64 c) (.agg []), ps) → v = ptrOf (F c) := by
    intro v ps hv
    cases hF : F c with
    | none =>
      rw [hF] at h3
      rw [atKey_of_not_has h3] at hv
      exact ptrElem_nil hv
    | some b =>
      rw [h4 b hF] at hv
      exact ptrElem_lit hv
  rw [key v ps hv, h3] at hr
  rw [key v2 ps2 hv2] at hr2
  exact ⟨hr, hr2⟩
theorem look_none (w : World) {c : Int} (hc : I64 c) : (Instr.lookup 112 (.map none) (.int .i64 c) true).run Tryz.prog w = .ok (.tuple #[.pointer none, .bool false]) w ∧
    (Instr.lookup 112 (.map none) (.int .i64 c) false).run Tryz.prog w = .ok (.pointer none) w :=
  ⟨look_nil true lawI Tryz.underlying112 (zeroP w) (keyOf_int_mk Tryz.underlying3 (wf_i64 hc)), look_nil false lawI Tryz.underlying112 (zeroP w) (keyOf_int_mk Tryz.underlying3 (wf_i64 hc))⟩

/-! ### the rows' maps -/
structure SumsE (w : World) (base rb : Nat) (ms : List (Option Nat)) (E : Nat → Int → Option (Nat × Rat)) (N : Nat) : Prop where
  rbase : base ≤ rb
  rows : ∃ T : TypeId, w.heap[rb]? = some (Obj.cells (ms.map Value.map).toArray T (0, 0))
  maps : ∀ (i mb : Nat), ms[i]? = some (some mb) → base ≤ mb ∧ MapB w mb N (fun c => (E i c).map Prod.fst)
  nil : ∀ (i : Nat) (c : Int), ms[i]? = some none → E i c = none
  out : ∀ (i : Nat) (c : Int), ms.length ≤ i → E i c = none
  rats : ∀ (i : Nat) (c : Int) (b : Nat) (q : Rat), E i c = some (b, q) → base ≤ b ∧ RatB w b q
  minj : ∀ (i j mb : Nat), ms[i]? = some (some mb) → ms[j]? = some (some mb) → i = j
  einj : ∀ (i j : Nat) (c d : Int) (b : Nat) (q q' : Rat), E i c = some (b, q) → E j d = some (b, q') → i = j ∧ c = d
theorem SumsE.cell {w : World} {base rb : Nat} {ms : List (Option Nat)} {E : Nat → Int → Option (Nat × Rat)} {N : Nat} (h : SumsE w base rb ms E N) {i : Nat} {o : Option Nat} (hi : ms[i]? = some o) : w.cell? ⟨rb, i, none⟩ = some (.map o) := by
  obtain ⟨T, hr⟩ := h.rows
  rw [cell_of_heap hr]
  simp [hi]
theorem SumsE.free {w : World} {base rb : Nat} {ms : List (Option Nat)} {E : Nat → Int → Option (Nat × Rat)} {N : Nat} (h : SumsE w base rb ms E N) (i : Nat) : w.frozen? ⟨rb, i, none⟩ = false := by
  obtain ⟨T, hr⟩ := h.rows
  exact free_of_heap hr i
theorem SumsE.more {w w' : World} {base rb : Nat} {ms : List (Option Nat)} {E : Nat → Int → Option (Nat × Rat)} {N : Nat} (h : SumsE w base rb ms E N) (hg : w.grownBy w' none) : SumsE w' base rb ms E N := by
  obtain ⟨T, hr⟩ := h.rows
  exact ⟨h.rbase, ⟨T, gb_heap hg hr (by simp)⟩, fun i mb hi => ⟨(h.maps i mb hi).1, (h.maps i mb hi).2.kept hg (by simp)⟩, h.nil, h.out, fun i c b q hb => ⟨(h.rats i c b q hb).1, (h.rats i c b q hb).2.more hg⟩, h.minj, h.einj⟩
theorem SumsE.mono {w : World} {base rb : Nat} {ms : List (Option Nat)} {E : Nat → Int → Option (Nat × Rat)} {N M : Nat} (h : SumsE w base rb ms E N) (hn : N ≤ M) : SumsE w base rb ms E M :=
  ⟨h.rbase, h.rows, fun i mb hi => ⟨(h.maps i mb hi).1, (h.maps i mb hi).2.mono hn⟩, h.nil, h.out, h.rats, h.minj, h.einj⟩
theorem SumsE.plain {w : World} {base rb : Nat} {ms : List (Option Nat)} {E : Nat → Int → Option (Nat × Rat)} {N : Nat} (h : SumsE w base rb ms E N) : Plain w rb := by
  obtain ⟨T, hr⟩ := h.rows
  refine plain_of_heap hr ?_
  intro u hu n e
  subst e
  simp at hu
theorem map_plain {w : World} {mb : Nat} {es : Array MapEntry} {cl : Nat} (h : w.heap[mb]? = some (.map es cl)) : Plain w mb := by
  intro o n
  simp [World.cell?, h]
theorem SumsE.rat_ne_row {w : World} {base rb : Nat} {ms : List (Option Nat)} {E : Nat → Int → Option (Nat × Rat)} {N b : Nat} {q : Rat} (h : SumsE w base rb ms E N) (hb : RatB w b q) : b ≠ rb := by
  rintro rfl
  obtain ⟨T, hr⟩ := h.rows
  obtain ⟨vn, vd, d, T', _, hb, _⟩ := hb
  rw [hb] at hr
  injection hr with hr
  injection hr with e1 e2 e3
  have := congrArg (fun a : Array Value => a[0]?) e1
  cases h0 : ms[0]? <;> simp [h0] at this
theorem rat_ne_map {w : World} {mb b : Nat} {q : Rat} {es : Array MapEntry} {cl : Nat} (hb : RatB w b q) (h : w.heap[mb]? = some (.map es cl)) : b ≠ mb := by
  rintro rfl
  obtain ⟨vn, vd, d, T', _, hb, _⟩ := hb
  rw [hb] at h
  cases h
theorem SumsE.map_ne_row {w : World} {base rb mb : Nat} {ms : List (Option Nat)} {E : Nat → Int → Option (Nat × Rat)} {N : Nat} {es : Array MapEntry} {cl : Nat} (h : SumsE w base rb ms E N) (hm : w.heap[mb]? = some (.map es cl)) : mb ≠ rb := by
  rintro rfl
  obtain ⟨T, hr⟩ := h.rows
  rw [hm] at hr
  cases hr
theorem SumsE.newMap {w : World} {base rb : Nat} {ms : List (Option Nat)} {E : Nat → Int → Option (Nat × Rat)} {N i mb : Nat} (h : SumsE w base rb ms E N) (hi : ms[i]? = some none) (hm : MapB w mb N (fun _ => none)) (hnew : ∀ j : Nat, ms[j]? ≠ some (some mb)) (hb : base ≤ mb) :
    SumsE (w.setCell ⟨rb, i, none⟩ (.map (some mb))) base rb (ms.set i (some mb)) E N ∧ w.grownBy (w.setCell ⟨rb, i, none⟩ (.map (some mb))) (some rb) := by
  have hg := gb_set w rb i (.map (some mb))
  have hp := h.plain
  obtain ⟨es, cl, hmo⟩ := hm.obj
  have hmr := h.map_ne_row hmo
  have hil : i < ms.length := (List.getElem?_eq_some_iff.1 hi).1
  refine ⟨⟨h.rbase, ?_, fun j mb' hj => ?_, fun j c hj => ?_, fun j c hj => h.out j c (by simpa using hj), fun j c b q hq => ?_, fun j k mb' hj hk => ?_, h.einj⟩, hg⟩
  · obtain ⟨T, hr⟩ := h.rows
    refine ⟨T, ?_⟩
    rw [heap_set hr]
    congr 2
    apply Array.ext'
    simp [List.map_set]
  · rw [List.getElem?_set] at hj
    split at hj
    · rename_i e; subst e
      simp [hil] at hj
      subst hj
      refine ⟨hb, ?_⟩
      have hE : (fun c => (E i c).map Prod.fst) = fun _ => none := by funext c; rw [h.nil i c hi]; rfl
      rw [hE]
      exact hm.kept hg (by simpa using hmr)
    · have h2 := h.maps j mb' hj
      obtain ⟨es', cl', hmo'⟩ := h2.2.obj
      exact ⟨h2.1, h2.2.kept hg (by simpa using h.map_ne_row hmo')⟩
  · rw [List.getElem?_set] at hj
    split at hj
    · simp [hil] at hj
    · exact h.nil j c hj
  · have h2 := h.rats j c b q hq
    exact ⟨h2.1, h2.2.other hg hp (h.rat_ne_row h2.2)⟩
  · rw [List.getElem?_set] at hj hk
    split at hj <;> split at hk
    · omega
    · simp [hil] at hj
      subst hj
      exact absurd hk (hnew k)
    · simp [hil] at hk
      subst hk
      exact absurd hj (hnew j)
    · exact h.minj j k mb' hj hk
def putE (E : Nat → Int → Option (Nat × Rat)) (i : Nat) (c : Int) (b : Nat) (q : Rat) : Nat → Int → Option (Nat × Rat) := fun j d => if j = i ∧ d = c then some (b, q) else E j d
theorem SumsE.newRat {w w' : World} {base rb : Nat} {ms : List (Option Nat)} {E : Nat → Int → Option (Nat × Rat)} {N i mb b : Nat} {c : Int} (h : SumsE w base rb ms E N) (hi : ms[i]? = some (some mb)) (hE : E i c = none)
    (hrat : RatB w b 0) (hbb : base ≤ b) (hnew : ∀ j d q, E j d ≠ some (b, q)) (hm : MapB w' mb (N + 1) (putF (fun c => (E i c).map Prod.fst) c b)) (hg : w.grownBy w' (some mb)) : SumsE w' base rb ms (putE E i c b 0) (N + 1) := by
  obtain ⟨es, cl, hmo⟩ := (h.maps i mb hi).2.obj
  have hmr := h.map_ne_row hmo
  have hp := map_plain hmo
  refine ⟨h.rbase, ?_, fun j mb' hj => ?_, fun j d hj => ?_, fun j d hj => ?_, fun j d b' q hq => ?_, h.minj, fun j k d e b' q q' hj hk => ?_⟩
  · obtain ⟨T, hr⟩ := h.rows
    exact ⟨T, gb_heap hg hr (by simpa using hmr.symm)⟩
  · by_cases e : j = i
    · subst e
      rw [hi] at hj
      injection hj with hj; injection hj with hj; subst hj
      refine ⟨(h.maps j mb hi).1, ?_⟩
      have hE2 : (fun d => (putE E j c b 0 j d).map Prod.fst) = putF (fun c => (E j c).map Prod.fst) c b := by
        funext d; unfold putE putF
        by_cases e : d = c <;> simp [e]
      rw [hE2]; exact hm
    · have h2 := h.maps j mb' hj
      have hne : mb' ≠ mb := fun hh => e (h.minj j i mb (by rw [hj, hh]) hi)
      have hE2 : (fun d => (putE E i c b 0 j d).map Prod.fst) = fun d => (E j d).map Prod.fst := by
        funext d; unfold putE; rw [if_neg (fun hh => e hh.1)]
      rw [hE2]
      exact ⟨h2.1, (h2.2.kept hg (by simpa using hne)).mono (by omega)⟩
  · unfold putE
    rw [if_neg (fun hh => by rw [hh.1, hi] at hj; cases hj)]
    exact h.nil j d hj
  · unfold putE
    have : i < ms.length := (List.getElem?_eq_some_iff.1 hi).1
    rw [if_neg (fun hh => by omega)]
    exact h.out j d hj
  · unfold putE at hq
    split at hq
    · injection hq with hq
      simp only [Prod.mk.injEq] at hq
      obtain ⟨rfl, rfl⟩ := hq
      exact ⟨hbb, hrat.other hg hp (rat_ne_map hrat hmo)⟩
    · have h2 := h.rats j d b' q hq
      exact ⟨h2.1, h2.2.other hg hp (rat_ne_map h2.2 hmo)⟩
  · unfold putE at hj hk
    split at hj <;> split at hk
    · rename_i h1 h2; exact ⟨h1.1.trans h2.1.symm, h1.2.trans h2.2.symm⟩
    · injection hj with hj
      simp only [Prod.mk.injEq] at hj
      obtain ⟨rfl, _⟩ := hj
      exact absurd hk (hnew _ _ _)
    · injection hk with hk
      simp only [Prod.mk.injEq] at hk
      obtain ⟨rfl, _⟩ := hk
      exact absurd hj (hnew _ _ _)
    · exact h.einj j k d e b' q q' hj hk
theorem SumsE.setRat {w w' : World} {base rb : Nat} {ms : List (Option Nat)} {E : Nat → Int → Option (Nat × Rat)} {N i b : Nat} {c : Int} {q0 q1 : Rat} (h : SumsE w base rb ms E N) (hE : E i c = some (b, q0)) (hr1 : RatB w' b q1) (hg : w.grownBy w' (some b)) : SumsE w' base rb ms (putE E i c b q1) N := by
  have hr0 := (h.rats i c b q0 hE).2
  have hp := hr0.plain
  have hrr := h.rat_ne_row hr0
  have hF : ∀ j, (fun d => (putE E i c b q1 j d).map Prod.fst) = fun d => (E j d).map Prod.fst := by
    intro j; funext d; unfold putE
    split
    · rename_i e; rw [e.1, e.2, hE]; rfl
    · rfl
  refine ⟨h.rbase, ?_, fun j mb' hj => ?_, fun j d hj => ?_, fun j d hj => ?_, fun j d b' q hq => ?_, h.minj, fun j k d e b' q q' hj hk => ?_⟩
  · obtain ⟨T, hr⟩ := h.rows
    exact ⟨T, gb_heap hg hr (by simpa using hrr.symm)⟩
  · have h2 := h.maps j mb' hj
    obtain ⟨es, cl, hmo⟩ := h2.2.obj
    rw [hF]
    exact ⟨h2.1, h2.2.kept hg (by simpa using (rat_ne_map hr0 hmo).symm)⟩
  · unfold putE
    rw [if_neg (fun hh => by have := h.nil j d hj; rw [hh.1, hh.2, hE] at this; cases this)]
    exact h.nil j d hj
  · unfold putE
    rw [if_neg (fun hh => by have := h.out j d hj; rw [hh.1, hh.2, hE] at this; cases this)]
    exact h.out j d hj
  · unfold putE at hq
    split at hq
    · injection hq with hq
      simp only [Prod.mk.injEq] at hq
      obtain ⟨rfl, rfl⟩ := hq
      exact ⟨(h.rats i c b q0 hE).1, hr1⟩
    · rename_i hne
      have h2 := h.rats j d b' q hq
      refine ⟨h2.1, h2.2.other hg hp ?_⟩
      rintro rfl
      exact hne (h.einj j i d c b' q q0 hq hE)
  · unfold putE at hj hk
    split at hj <;> split at hk
    · rename_i h1 h2; exact ⟨h1.1.trans h2.1.symm, h1.2.trans h2.2.symm⟩
    · rename_i h1 h2
      injection hj with hj
      simp only [Prod.mk.injEq] at hj
      obtain ⟨rfl, _⟩ := hj
      have := h.einj i k c e b q0 q' hE hk
      exact absurd ⟨this.1.symm, this.2.symm⟩ h2
    · rename_i h1 h2
      injection hk with hk
      simp only [Prod.mk.injEq] at hk
      obtain ⟨rfl, _⟩ := hk
      have := h.einj j i d c b q q0 hj hE
      exact absurd this h1
    · exact h.einj j k d e b' q q' hj hk
def SumsS (w : World) (base rb n : Nat) (L : List StampP) : Prop :=
  ∃ ms E, ms.length = n * 5 ∧ SumsE w base rb ms E L.length ∧ ∀ i c, (E i c).map Prod.snd = if hasQ L i c then some (accQ L i c) else none
theorem SumsS.more {w w' : World} {base rb n : Nat} {L : List StampP} (h : SumsS w base rb n L) (hg : w.grownBy w' none) : SumsS w' base rb n L := by
  obtain ⟨ms, E, h1, h2, h3⟩ := h; exact ⟨ms, E, h1, h2.more hg, h3⟩
theorem SumsS.lt {w : World} {base rb n : Nat} {L : List StampP} (h : SumsS w base rb n L) : rb < w.heap.size := by
  obtain ⟨ms, E, h1, h2, h3⟩ := h; obtain ⟨T, h2⟩ := h2.rows; exact lt_of_heap h2
theorem sums_step {L : List StampP} {x : StampP} {E E' : Nat → Int → Option (Nat × Rat)} {b : Nat} (h : ∀ i c, (E i c).map Prod.snd = if hasQ L i c then some (accQ L i c) else none)
    (hE : E' = putE E x.cellAt x.col b (accQ L x.cellAt x.col + x.val)) : ∀ i c, (E' i c).map Prod.snd = if hasQ (L ++ [x]) i c then some (accQ (L ++ [x]) i c) else none := by
  intro i c
  subst hE
  rw [hasQ_snoc, accQ_snoc]
  by_cases hh : i = x.cellAt ∧ c = x.col
  · obtain ⟨rfl, rfl⟩ := hh
    have hb : hitB x.cellAt x.col x = true := hitB_iff.2 ⟨rfl, rfl⟩
    simp [putE, hb]
  · have hb : hitB i c x = false := by
      cases hx : hitB i c x with
      | false => rfl
      | true => obtain ⟨h1, h2⟩ := hitB_iff.1 hx; exact absurd ⟨h1.symm, h2.symm⟩ hh
    rw [hb]
    simp only [putE, if_neg hh, h i c, Bool.or_false, Rat.add_zero]
    simp [Rat.add_zero]

end Go.Proofs.YtmfmfpmkgmkgiaaGreatDoor

namespace Go.Proofs.YtmfmfpmkgmkgiaaGreatDoor
open Go.RowKit Go.Maps
open Rat
theorem wpList_lookB {w : World} {ops : Array Oper} {rest : List Oper} {o : Oper} {a : Act} {Q : Exit → Act → World → Prop} (hg : o.guard = none) (m x : Operand) (hop : o.op = Op.lookup 112 m x true)
    {mb N : Nat} {F : Int → Option Nat} (c : Int) (hc : I64 c) (h : MapB w mb N F) (hm : a.eval m = .map (some mb)) (hx : a.eval x = .int .i64 c) (u : Value) (b : Bool) (hu : ptrOf (F c) = u) (hb : (F c).isSome = b)
    (hK : wpList Tryz.prog ops Q rest (a.put o.dst (.tuple #[u, .bool b])) w) : wpList Tryz.prog ops Q (o :: rest) a w := by
  subst hu hb
  refine wpList_plain hg fun K' hK' => ?_
  unfold Oper.wp
  simp [execOp, hop, hm, hx, (h.look hc).1, Result.andThen]
  exact hK' _ _ hK
theorem wpList_lookB1 {w : World} {ops : Array Oper} {rest : List Oper} {o : Oper} {a : Act} {Q : Exit → Act → World → Prop} (hg : o.guard = none) (m x : Operand) (hop : o.op = Op.lookup 112 m x false)
    {mb N : Nat} {F : Int → Option Nat} (c : Int) (hc : I64 c) (h : MapB w mb N F) (hm : a.eval m = .map (some mb)) (hx : a.eval x = .int .i64 c) (u : Value) (hu : ptrOf (F c) = u)
    (hK : wpList Tryz.prog ops Q rest (a.put o.dst u) w) : wpList Tryz.prog ops Q (o :: rest) a w := by
  subst hu
  refine wpList_plain hg fun K' hK' => ?_
  unfold Oper.wp
  simp [execOp, hop, hm, hx, (h.look hc).2, Result.andThen]
  exact hK' _ _ hK
theorem wpList_updB {w : World} {ops : Array Oper} {rest : List Oper} {o : Oper} {a : Act} {Q : Exit → Act → World → Prop} (hg : o.guard = none) (m x v : Operand) (hop : o.op = Op.mapUpdate 112 m x v)
    {mb N b : Nat} {F : Int → Option Nat} (c : Int) (hc : I64 c) (h : MapB w mb N F) (hn : N < maxLen) (hm : a.eval m = .map (some mb)) (hx : a.eval x = .int .i64 c) (hv : a.eval v = .pointer (some ⟨b, 0, none⟩))
    (hK : ∀ w', MapB w' mb (N + 1) (putF F c b) → w.grownBy w' (some mb) → wpList Tryz.prog ops Q rest (a.put o.dst undef) w') : wpList Tryz.prog ops Q (o :: rest) a w := by
  refine wpList_plain hg fun K' hK' => ?_
  obtain ⟨w', hrun, r1, r2⟩ := h.put (b := b) hc hn
  unfold Oper.wp
  simp [execOp, hop, hm, hx, hv, hrun, Result.andThen]
  exact hK' _ _ (hK w' r1 r2)
def Soft (w : World) (r : Nat) : Prop := Plain w r ∧ ∀ n, w.cell? ⟨r, 0, none⟩ ≠ some (.int .i64 n)
structure StayR (w w' : World) : Prop where
  nums : ∀ v xs, Nums w v xs → Nums w' v xs
  ints : ∀ b o v n, w.cell? ⟨b, 0, none⟩ = some (.int .i64 n) → w.cell? ⟨b, o, none⟩ = some v → w'.cell? ⟨b, o, none⟩ = some v
theorem StayR.refl (w : World) : StayR w w := ⟨fun _ _ h => h, fun _ _ _ _ _ h => h⟩
theorem StayR.trans {a b c : World} (h : StayR a b) (k : StayR b c) : StayR a c := ⟨fun v xs hv => k.nums v xs (h.nums v xs hv), fun b o v n h0 h1 => k.ints b o v n (h.ints b 0 _ n h0 h0) (h.ints b o v n h0 h1)⟩
theorem StayR.none {a b : World} (h : a.grownBy b none) : StayR a b := ⟨fun v xs hv => hv.more h, fun b o v n h0 h1 => gb_cell h h1 (by simp)⟩
theorem StayR.row {a b : World} {r : Nat} (h : a.grownBy b (some r)) (hs : Soft a r) : StayR a b :=
  ⟨fun v xs hv => hv.other h hs.1, fun b o v n h0 h1 => gb_cell h h1 (by intro e; injection e with e; subst e; exact hs.2 n h0)⟩
theorem RatB.soft {w : World} {b : Nat} {q : Rat} (h : RatB w b q) : Soft w b := by
  refine ⟨h.plain, fun n => ?_⟩
  obtain ⟨vn, vd, d, T, _, hb, _⟩ := h
  rw [cell_of_heap hb]; simp
theorem map_soft {w : World} {mb : Nat} {es : Array MapEntry} {cl : Nat} (h : w.heap[mb]? = some (.map es cl)) : Soft w mb := ⟨map_plain h, fun n => by simp [World.cell?, h]⟩
theorem SumsE.soft {w : World} {base rb : Nat} {ms : List (Option Nat)} {E : Nat → Int → Option (Nat × Rat)} {N : Nat} (h : SumsE w base rb ms E N) : Soft w rb := by
  refine ⟨h.plain, fun n => ?_⟩
  obtain ⟨T, hr⟩ := h.rows
  rw [cell_of_heap hr]
  cases h0 : ms[0]? <;> simp [h0]
structure Bel (base : Nat) (w w' : World) : Prop where
  below : Below base w w'
  stay : StayR w w'
theorem Bel.size {base : Nat} {w w' : World} (h : Bel base w w') : w.heap.size ≤ w'.heap.size := h.below.size
theorem Bel.trans {base : Nat} {a b c : World} (h : Bel base a b) (k : Bel base b c) : Bel base a c := ⟨h.below.trans k.below, h.stay.trans k.stay⟩
theorem below_row {w w' : World} {base r : Nat} (hg : w.grownBy w' (some r)) (hs : Soft w r) (hr : base ≤ r) (hb : base ≤ w.heap.size) : Bel base w w' :=
  ⟨⟨hg.os, hg.tape, hg.output, hg.size, fun k hk => hg.block k (by omega) (by simp; omega)⟩, StayR.row hg hs⟩
theorem below_none {w w' : World} {base : Nat} (hg : w.grownBy w' none) (hb : base ≤ w.heap.size) : Bel base w w' :=
  ⟨⟨hg.os, hg.tape, hg.output, hg.size, fun k hk => hg.block k (by omega) (by simp)⟩, StayR.none hg⟩
theorem add_end {w : World} {base rb n N b : Nat} {L : List StampP} {x : StampP} {ms : List (Option Nat)} {E : Nat → Int → Option (Nat × Rat)} {w2 w3 : World}  (hms : ms.length = n * 5)
    (hS : SumsE w base rb ms E N) (hN : N ≤ L.length + 1) (hE : E x.cellAt x.col = some (b, accQ L x.cellAt x.col)) (hsnd : ∀ i c, ¬ (i = x.cellAt ∧ c = x.col) → (E i c).map Prod.snd = if hasQ L i c then some (accQ L i c) else none)
    (g2 : w.grownBy w2 none) (hr : RatB w3 b (accQ L x.cellAt x.col + x.val)) (g3 : w2.grownBy w3 (some b)) : SumsS w3 base rb n (L ++ [x]) := by
  refine ⟨ms, putE E x.cellAt x.col b (accQ L x.cellAt x.col + x.val), hms, ((hS.more g2).setRat hE hr g3).mono (by simpa using hN), fun i c => ?_⟩
  rw [hasQ_snoc, accQ_snoc]
  by_cases hh : i = x.cellAt ∧ c = x.col
  · obtain ⟨rfl, rfl⟩ := hh
    have hb : hitB x.cellAt x.col x = true := hitB_iff.2 ⟨rfl, rfl⟩
    simp [putE, hb]
  · have hb : hitB i c x = false := by
      cases hx : hitB i c x with
      | false => rfl
      | true => obtain ⟨h1, h2⟩ := hitB_iff.1 hx; exact absurd ⟨h1.symm, h2.symm⟩ hh
    rw [hb]
    simp only [putE, if_neg hh, hsnd i c hh, Bool.or_false]
    simp [Rat.add_zero]

theorem snd_some {L : List StampP} {E : Nat → Int → Option (Nat × Rat)} (h : ∀ i c, (E i c).map Prod.snd = if hasQ L i c then some (accQ L i c) else none) {i : Nat} {c : Int} {b : Nat} {q : Rat} (hE : E i c = some (b, q)) : q = accQ L i c := by
  have := h i c
  rw [hE] at this
  split at this
  · simpa using this
  · simp at this
theorem snd_none {L : List StampP} {E : Nat → Int → Option (Nat × Rat)} (h : ∀ i c, (E i c).map Prod.snd = if hasQ L i c then some (accQ L i c) else none) {i : Nat} {c : Int} (hE : E i c = none) : accQ L i c = 0 := by
  have := h i c
  rw [hE] at this
  split at this
  · simp at this
  · rename_i hh; exact accQ_none (by simpa using hh)

set_option maxRecDepth 100000 in
set_option maxHeartbeats 40000000 in
theorem sadd_calls (w : World) (base rb n r kk K : Nat) (L : List StampP) (x : StampP) (A1 A2 : Option Addr) (n1 c1 n2 c2 : Nat) (hS : SumsS w base rb n L) (hb0 : base ≤ w.heap.size) (hx : I64 x.col) (hn1 : Nums w (.slice A1 n1 c1) (digs x.val.num)) (hn2 : Nums w (.slice A2 n2 c2) (digs (x.val.den : Int)))
    (hr : x.row = (r : Int)) (hrn : r < n) (hn48 : n ≤ 48) (hk : x.kind = (kk : Int)) (hk5 : kk < 5) (hL : LimL L K) (hlx : LimQ x.val K) (hkb : 2 * (L.length * (K + 2) + 1 + K) + 1 ≤ 549755813888) (hll : L.length < 1000000) :
    Calls Tryz.prog 45 #[.pointer (some ⟨rb, r * 5, none⟩), .agg #[.int .i64 (kk : Int), .int .i64 (r : Int), .int .i64 x.col, .bool (decide (x.val.num < 0)), .slice A1 n1 c1, .bool false, .slice A2 n2 c2]] w fun e w' => e = .returned (.tuple #[]) ∧ SumsS w' base rb n (L ++ [x]) ∧ Bel base w w' := by
  obtain ⟨ms, E, hms, hE, hsnd⟩ := hS
  have hca : x.cellAt = r * 5 + kk := by unfold StampP.cellAt; rw [hr, hk]; omega
  have hil : r * 5 + kk < ms.length := by omega
  have gb := gb_alloc w (.cells #[.int .i64 (kk : Int), .int .i64 (r : Int), .int .i64 x.col, .bool (decide (x.val.num < 0)), .slice A1 n1 c1, .bool false, .slice A2 n2 c2] 111) none
  have hB := Blk.new w #[.int .i64 (kk : Int), .int .i64 (r : Int), .int .i64 x.col, .bool (decide (x.val.num < 0)), .slice A1 n1 c1, .bool false, .slice A2 n2 c2] 111
  have HLX := Lib.hid hlx
  have HKB := Lib.hid hkb
  have HLA : Hid (LimQ (accQ L x.cellAt x.col) (L.length * (K + 2) + 1)) := Lib.hid (accQ_lim hL _ _)
  have HMS := Lib.hid hms
  have HSND := Lib.hid hsnd
  have HCA := Lib.hid hca
  have HLL := Lib.hid hll
  have hmm := @run_makeMap Tryz.prog
  have hslt : rb < w.heap.size := by obtain ⟨T, h⟩ := hE.rows; exact lt_of_heap h
  have i0 : (0 : Int) ≤ (kk : Int) := by omega
  have i1 : (kk : Int) < 5 := by omega
  have b0 := hB.cell 0
  have b2 := hB.cell 2
  have b3 := hB.cell 3
  have b4 := hB.cell 4
  have b5 := hB.cell 5
  have b6 := hB.cell 6
  simp only [List.getElem?_toArray, List.getElem?_cons_zero, List.getElem?_cons_succ] at b0 b2 b3 b4 b5 b6
  have HB := Lib.hid hB
  have HEE := Lib.hid hE
  have HN1 := Lib.hid hn1
  have HN2 := Lib.hid hn2
  clear hE hn1 hn2 hL hlx hkb hsnd hms hB
  cases hmi : ms[r * 5 + kk]? with
  | none => rw [List.getElem?_eq_none_iff] at hmi; omega
  | some om =>
  have hcell := gb_cell gb (HEE.out.cell hmi) (by simp)
  have hfree := (HEE.out.more gb).free (r * 5 + kk)
  have HGB := Lib.hid gb
  clear gb
  have hne : ¬ w.heap.size = rb := by omega
  have hne2 : ¬ rb = w.heap.size := by omega
  go_enter Tryz.func45, Tryz.ntmps45
  go_wp2_with fail
  go_quiet (fail)
  have hbe1 : ∀ W : World, (binOp BinOp.eql 112 (Value.map none) (Value.map none)).run Tryz.prog W = .ok (.bool true) W := fun _ => by kernel_rfl
  have hbe2 : ∀ (m : Nat) (W : World), (binOp BinOp.eql 112 (Value.map (some m)) (Value.map none)).run Tryz.prog W = .ok (.bool false) W := fun _ _ => by kernel_rfl
  have gq : w.grownBy ((w.alloc (.cells #[.int .i64 (kk : Int), .int .i64 (r : Int), .int .i64 x.col, .bool (decide (x.val.num < 0)), .slice A1 n1 c1, .bool false, .slice A2 n2 c2] 111)).drewN nq) none := gb_trans HGB.out (gb_drewN _ _ _)
  have hBq := HB.out.more (gb_drewN (w.alloc (.cells #[.int .i64 (kk : Int), .int .i64 (r : Int), .int .i64 x.col, .bool (decide (x.val.num < 0)), .slice A1 n1 c1, .bool false, .slice A2 n2 c2] 111)) nq none)
  have hszq : ((w.alloc (.cells #[.int .i64 (kk : Int), .int .i64 (r : Int), .int .i64 x.col, .bool (decide (x.val.num < 0)), .slice A1 n1 c1, .bool false, .slice A2 n2 c2] 111)).drewN nq).heap.size = w.heap.size + 1 := by simp
  have hcell : ((w.alloc (.cells #[.int .i64 (kk : Int), .int .i64 (r : Int), .int .i64 x.col, .bool (decide (x.val.num < 0)), .slice A1 n1 c1, .bool false, .slice A2 n2 c2] 111)).drewN nq).cell? ⟨rb, r * 5 + kk, none⟩ = some (.map om) := hcell
  have hfree : ((w.alloc (.cells #[.int .i64 (kk : Int), .int .i64 (r : Int), .int .i64 x.col, .bool (decide (x.val.num < 0)), .slice A1 n1 c1, .bool false, .slice A2 n2 c2] 111)).drewN nq).frozen? ⟨rb, r * 5 + kk, none⟩ = false := hfree
  generalize (w.alloc (.cells #[.int .i64 (kk : Int), .int .i64 (r : Int), .int .i64 x.col, .bool (decide (x.val.num < 0)), .slice A1 n1 c1, .bool false, .slice A2 n2 c2] 111)).drewN nq = wq at *
  generalize hsz : w.heap.size = s at *
  have HGQ := Lib.hid gq
  have HBQ := Lib.hid hBq
  have HE1 := Lib.hid (HEE.out.more gq)
  clear HB HGB gq
  have b0 := hBq.cell 0
  have b2 := hBq.cell 2
  have b3 := hBq.cell 3
  have b4 := hBq.cell 4
  have b5 := hBq.cell 5
  have b6 := hBq.cell 6
  simp only [List.getElem?_toArray, List.getElem?_cons_zero, List.getElem?_cons_succ] at b0 b2 b3 b4 b5 b6
  clear hBq
  have HBL := Lib.hid (below_none HGQ.out (by rw [hsz]; exact hb0))
  cases om with
  | none =>
    go_wp2_with fail
    have ga := gb_alloc wq (.map #[] 0) none
    have hE4 := HE1.out.more ga
    have hM4 := (MapB.made wq).mono (Nat.zero_le L.length)
    have b0 := gb_cell ga b0 (by simp)
    have b2 := gb_cell ga b2 (by simp)
    have b3 := gb_cell ga b3 (by simp)
    have b4 := gb_cell ga b4 (by simp)
    have b5 := gb_cell ga b5 (by simp)
    have b6 := gb_cell ga b6 (by simp)
    have hcell := gb_cell ga hcell (by simp)
    have hfree := hE4.free (r * 5 + kk)
    have hnew : ∀ j : Nat, ms[j]? ≠ some (some (s + 1)) := fun j hj => by have := (HE1.out.maps _ _ hj).2.lt; omega
    have hsz4 : (wq.alloc (.map #[] 0)).heap.size = s + 1 + 1 := by rw [World.size_alloc, hszq]
    have HBL := Lib.hid (HBL.out.trans (below_none ga (by rw [hszq]; omega)))
    have HW := Lib.hid (And.intro (HN1.out.more (gb_trans HGQ.out ga)) (HN2.out.more (gb_trans HGQ.out ga)))
    have HNW := Lib.hid hnew
    rw [hszq] at hM4
    clear hE4 hnew ga
    have HE4 := Lib.hid (HE1.out.more (gb_alloc wq (.map #[] 0) none))
    generalize wq.alloc (.map #[] 0) = wa at *
    go_still_tail 7, (by kernel_rfl)
    change wpList _ _ _ _ _ wa.drew
    have hE4 := HE4.out.more (gb_drew _ _)
    have hM4 := hM4.kept (gb_drew wa none) (by simp)
    have HW := Lib.hid (And.intro (HW.out.1.more (gb_drew _ _)) (HW.out.2.more (gb_drew _ _)))
    have HBL := Lib.hid (HBL.out.trans (below_none (gb_drew wa none) (by rw [hsz4]; omega)))
    have hcell : wa.drew.cell? ⟨rb, r * 5 + kk, none⟩ = some (.map none) := hcell
    have hfree : wa.drew.frozen? ⟨rb, r * 5 + kk, none⟩ = false := hfree
    have b2 : wa.drew.cell? ⟨s, 2, none⟩ = _ := b2
    have b3 : wa.drew.cell? ⟨s, 3, none⟩ = _ := b3
    have b4 : wa.drew.cell? ⟨s, 4, none⟩ = _ := b4
    have b5 : wa.drew.cell? ⟨s, 5, none⟩ = _ := b5
    have b6 : wa.drew.cell? ⟨s, 6, none⟩ = _ := b6
    have hsz4 : wa.drew.heap.size = s + 1 + 1 := hsz4
    clear HE4
    have HE4 := Lib.hid hE4
    clear hE4
    generalize wa.drew = wb at *
    obtain ⟨hE5, hg5⟩ := HE4.out.newMap hmi hM4 HNW.out (by omega)
    have gd := hg5
    have b2 := gb_cell gd b2 (by simp; omega)
    have b3 := gb_cell gd b3 (by simp; omega)
    have b4 := gb_cell gd b4 (by simp; omega)
    have b5 := gb_cell gd b5 (by simp; omega)
    have b6 := gb_cell gd b6 (by simp; omega)
    have hpr := HE4.out.plain
    have HW := Lib.hid (And.intro (HW.out.1.other gd hpr) (HW.out.2.other gd hpr))
    have hszq : (wb.setCell ⟨rb, r * 5 + kk, none⟩ (.map (some (s + 1)))).heap.size = s + 1 + 1 := by simp [World.setCell]; exact hsz4
    have HBL := Lib.hid (HBL.out.trans (below_row gd HE4.out.soft HE4.out.rbase (by rw [hsz4]; omega)))
    have HE1 := Lib.hid hE5
    have hmi2 : (ms.set (r * 5 + kk) (some (s + 1)))[r * 5 + kk]? = some (some (s + 1)) := by rw [List.getElem?_set_self hil]
    have hEc := HE4.out.nil _ x.col hmi
    have hmap := (HE1.out.maps _ _ hmi2).2
    have hmbs : s + 1 < s + 1 + 1 := by omega
    clear hE5 hg5 hpr gd hM4 hsz4 HE4 b0 hmi
    go_wp2_with (first
      | (at_lookup; refine wpList_lookB rfl _ _ rfl x.col hx hmap rfl rfl (.pointer none) false (by rw [hEc]; rfl) (by rw [hEc]; rfl) ?_)
      | (at_mapUpdate; refine wpList_updB (b := (s + 1 + 1)) rfl _ _ _ rfl x.col hx (hmap.kept (gb_alloc _ _ none) (by simp)) (by unfold maxLen; omega) rfl rfl rfl ?_; intro w3 hm3 hg3; have b3 := gb_cell hg3 (gb_cell (gb_alloc (wb.setCell ⟨rb, r * 5 + kk, none⟩ (.map (some (s + 1)))) (.cells #[.bool false, .slice none 0 0, .bool false, .slice none 0 0] 178) none) b3 (by simp)) (by simp <;> omega); have b4 := gb_cell hg3 (gb_cell (gb_alloc (wb.setCell ⟨rb, r * 5 + kk, none⟩ (.map (some (s + 1)))) (.cells #[.bool false, .slice none 0 0, .bool false, .slice none 0 0] 178) none) b4 (by simp)) (by simp <;> omega); have b5 := gb_cell hg3 (gb_cell (gb_alloc (wb.setCell ⟨rb, r * 5 + kk, none⟩ (.map (some (s + 1)))) (.cells #[.bool false, .slice none 0 0, .bool false, .slice none 0 0] 178) none) b5 (by simp)) (by simp <;> omega); have b6 := gb_cell hg3 (gb_cell (gb_alloc (wb.setCell ⟨rb, r * 5 + kk, none⟩ (.map (some (s + 1)))) (.cells #[.bool false, .slice none 0 0, .bool false, .slice none 0 0] 178) none) b6 (by simp)) (by simp <;> omega); have HM3 := Lib.hid hm3; have HG3 := Lib.hid hg3; clear hm3 hg3)
      | fail)
    have hrat0 : RatB ((wb.setCell ⟨rb, r * 5 + kk, none⟩ (.map (some (s + 1)))).alloc (.cells #[.bool false, .slice none 0 0, .bool false, .slice none 0 0] 178)) (s + 1 + 1) 0 := by have := RatB.new (wb.setCell ⟨rb, r * 5 + kk, none⟩ (.map (some (s + 1)))) 178; rwa [hszq] at this
    have hbase : base ≤ (s + 1 + 1) := by omega
    have hE3 : SumsE w3 base rb (ms.set (r * 5 + kk) (some (s + 1))) (putE E (r * 5 + kk) x.col (s + 1 + 1) 0) (L.length + 1) := (HE1.out.more (gb_alloc (wb.setCell ⟨rb, r * 5 + kk, none⟩ (.map (some (s + 1)))) (.cells #[.bool false, .slice none 0 0, .bool false, .slice none 0 0] 178) none)).newRat hmi2 hEc hrat0 hbase (fun j d q hh => by have := (HE1.out.rats j d _ _ hh).2.lt; omega) HM3.out HG3.out
    have hq := snd_none HSND.out hEc
    have hmo := ((HE1.out.more (gb_alloc (wb.setCell ⟨rb, r * 5 + kk, none⟩ (.map (some (s + 1)))) (.cells #[.bool false, .slice none 0 0, .bool false, .slice none 0 0] 178) none)).maps _ _ hmi2)
    obtain ⟨es, cl, hmob⟩ := hmo.2.obj
    have HW1 := Lib.hid ((HW.out.1.more (gb_alloc (wb.setCell ⟨rb, r * 5 + kk, none⟩ (.map (some (s + 1)))) (.cells #[.bool false, .slice none 0 0, .bool false, .slice none 0 0] 178) none)).other HG3.out (map_plain hmob))
    have HW2 := Lib.hid ((HW.out.2.more (gb_alloc (wb.setCell ⟨rb, r * 5 + kk, none⟩ (.map (some (s + 1)))) (.cells #[.bool false, .slice none 0 0, .bool false, .slice none 0 0] 178) none)).other HG3.out (map_plain hmob))
    have hEC : putE E (r * 5 + kk) x.col (s + 1 + 1) 0 x.cellAt x.col = some ((s + 1 + 1), accQ L x.cellAt x.col) := by rw [hca, hq]; simp [putE]
    have HEC := Lib.hid hEC
    have HRB := Lib.hid (hE3.rats _ _ _ _ hEC).2
    have HBOX := Lib.hid (show w3.cell? ⟨s, 3, none⟩ = some (.bool (decide (x.val.num < 0))) ∧ w3.cell? ⟨s, 4, none⟩ = some (.slice A1 n1 c1) ∧ w3.cell? ⟨s, 5, none⟩ = some (.bool false) ∧ w3.cell? ⟨s, 6, none⟩ = some (.slice A2 n2 c2) from ⟨b3, b4, b5, b6⟩)
    have HBL3 := Lib.hid ((HBL.out.trans (below_none (gb_alloc (wb.setCell ⟨rb, r * 5 + kk, none⟩ (.map (some (s + 1)))) (.cells #[.bool false, .slice none 0 0, .bool false, .slice none 0 0] 178) none) (by omega))).trans (below_row HG3.out (map_soft hmob) hmo.1 (by rw [World.size_alloc]; omega)))
    have HE3 := Lib.hid hE3
    have HBS := Lib.hid hbase
    have hca2 := HCA.out
    clear hrat0 hE3 hq hmo hmob hEC hmap hEc hbase
    obtain ⟨k3, k4, k5, k6⟩ : w3.cell? ⟨s, 3, none⟩ = some (.bool (decide (x.val.num < 0))) ∧ w3.cell? ⟨s, 4, none⟩ = some (.slice A1 n1 c1) ∧ w3.cell? ⟨s, 5, none⟩ = some (.bool false) ∧ w3.cell? ⟨s, 6, none⟩ = some (.slice A2 n2 c2) := HBOX.out
    refine (WRat_calls w3 _ _ _ _ _ _ HW1.out HW2.out (by have := HLX.out.1; have := HKB.out; unfold lim at *; omega) (by have := HLX.out.2; have := HKB.out; unfold lim at *; omega) (by rw [val_digs]; have := den_ne x.val; omega)).mono ?_
    rintro e w5 ⟨bx, rfl, hr5, hb5, hg5⟩
    rw [val_digs, val_digs, sg_self, show sg false (x.val.den : Int).natAbs = (x.val.den : Int) from by simp [sg], Rat.num_divInt_den] at hr5
    have HR5 := Lib.hid hr5
    have HG5 := Lib.hid hg5
    clear hr5 hb5 hg5 k3 k4 k5 k6
    go_wp2_with fail
    refine (RAdd_calls w5 (s + 1 + 1) (s + 1 + 1) bx _ _ _ (HRB.out.more HG5.out) (HRB.out.more HG5.out) HR5.out (L.length * (K + 2) + 1 + K) (by have := HKB.out; omega) (HLA.out.mono (by omega)) (HLX.out.mono (by omega))).mono ?_
    rintro e w6 ⟨rfl, hr6, hg6⟩
    have H6 := Lib.hid (And.intro hr6 hg6)
    clear hr6 hg6
    go_wp2_with fail
    go_end0
    exact ⟨rfl, add_end (by first | exact HMS.out | (rw [List.length_set]; exact HMS.out)) HE3.out (by omega) HEC.out (fun i c hh => by rw [← HSND.out i c]; unfold putE; rw [if_neg (fun h2 => hh ⟨h2.1.trans hca2.symm, h2.2⟩)]) HG5.out H6.out.1 H6.out.2, (HBL3.out.trans (below_none HG5.out (Nat.le_trans (by rw [hsz]; exact hb0) HBL3.out.size))).trans (below_row H6.out.2 ((HRB.out.more HG5.out).soft) HBS.out (Nat.le_trans (by rw [hsz]; exact hb0) (HBL3.out.trans (below_none HG5.out (Nat.le_trans (by rw [hsz]; exact hb0) HBL3.out.size))).size))⟩
  | some mb =>
    have hmap := (HE1.out.maps _ _ hmi).2
    cases hEc : E (r * 5 + kk) x.col with
    | none =>
      have hmbs : mb < s := by rw [← hsz]; exact (HEE.out.maps _ _ hmi).2.lt
      have HW := Lib.hid (And.intro (HN1.out.more HGQ.out) (HN2.out.more HGQ.out))
      go_wp2_with (first
        | (at_lookup; refine wpList_lookB rfl _ _ rfl x.col hx hmap rfl rfl (.pointer none) false (by rw [hEc]; rfl) (by rw [hEc]; rfl) ?_)
        | (at_mapUpdate; refine wpList_updB (b := (s + 1)) rfl _ _ _ rfl x.col hx (hmap.kept (gb_alloc _ _ none) (by simp)) (by unfold maxLen; omega) rfl rfl rfl ?_; intro w3 hm3 hg3; have b3 := gb_cell hg3 (gb_cell (gb_alloc wq (.cells #[.bool false, .slice none 0 0, .bool false, .slice none 0 0] 178) none) b3 (by simp)) (by simp <;> omega); have b4 := gb_cell hg3 (gb_cell (gb_alloc wq (.cells #[.bool false, .slice none 0 0, .bool false, .slice none 0 0] 178) none) b4 (by simp)) (by simp <;> omega); have b5 := gb_cell hg3 (gb_cell (gb_alloc wq (.cells #[.bool false, .slice none 0 0, .bool false, .slice none 0 0] 178) none) b5 (by simp)) (by simp <;> omega); have b6 := gb_cell hg3 (gb_cell (gb_alloc wq (.cells #[.bool false, .slice none 0 0, .bool false, .slice none 0 0] 178) none) b6 (by simp)) (by simp <;> omega); have HM3 := Lib.hid hm3; have HG3 := Lib.hid hg3; clear hm3 hg3)
        | fail)
      have hrat0 : RatB (wq.alloc (.cells #[.bool false, .slice none 0 0, .bool false, .slice none 0 0] 178)) (s + 1) 0 := by have := RatB.new wq 178; rwa [hszq] at this
      have hbase : base ≤ (s + 1) := by omega
      have hE3 : SumsE w3 base rb ms (putE E (r * 5 + kk) x.col (s + 1) 0) (L.length + 1) := (HE1.out.more (gb_alloc wq (.cells #[.bool false, .slice none 0 0, .bool false, .slice none 0 0] 178) none)).newRat hmi hEc hrat0 hbase (fun j d q hh => by have := (HE1.out.rats j d _ _ hh).2.lt; omega) HM3.out HG3.out
      have hq := snd_none HSND.out hEc
      have hmo := ((HE1.out.more (gb_alloc wq (.cells #[.bool false, .slice none 0 0, .bool false, .slice none 0 0] 178) none)).maps _ _ hmi)
      obtain ⟨es, cl, hmob⟩ := hmo.2.obj
      have HW1 := Lib.hid ((HW.out.1.more (gb_alloc wq (.cells #[.bool false, .slice none 0 0, .bool false, .slice none 0 0] 178) none)).other HG3.out (map_plain hmob))
      have HW2 := Lib.hid ((HW.out.2.more (gb_alloc wq (.cells #[.bool false, .slice none 0 0, .bool false, .slice none 0 0] 178) none)).other HG3.out (map_plain hmob))
      have hEC : putE E (r * 5 + kk) x.col (s + 1) 0 x.cellAt x.col = some ((s + 1), accQ L x.cellAt x.col) := by rw [hca, hq]; simp [putE]
      have HEC := Lib.hid hEC
      have HRB := Lib.hid (hE3.rats _ _ _ _ hEC).2
      have HBOX := Lib.hid (show w3.cell? ⟨s, 3, none⟩ = some (.bool (decide (x.val.num < 0))) ∧ w3.cell? ⟨s, 4, none⟩ = some (.slice A1 n1 c1) ∧ w3.cell? ⟨s, 5, none⟩ = some (.bool false) ∧ w3.cell? ⟨s, 6, none⟩ = some (.slice A2 n2 c2) from ⟨b3, b4, b5, b6⟩)
      have HBL3 := Lib.hid ((HBL.out.trans (below_none (gb_alloc wq (.cells #[.bool false, .slice none 0 0, .bool false, .slice none 0 0] 178) none) (by omega))).trans (below_row HG3.out (map_soft hmob) hmo.1 (by rw [World.size_alloc]; omega)))
      have HE3 := Lib.hid hE3
      have HBS := Lib.hid hbase
      have hca2 := HCA.out
      clear hrat0 hE3 hq hmo hmob hEC hmap hEc hbase
      obtain ⟨k3, k4, k5, k6⟩ : w3.cell? ⟨s, 3, none⟩ = some (.bool (decide (x.val.num < 0))) ∧ w3.cell? ⟨s, 4, none⟩ = some (.slice A1 n1 c1) ∧ w3.cell? ⟨s, 5, none⟩ = some (.bool false) ∧ w3.cell? ⟨s, 6, none⟩ = some (.slice A2 n2 c2) := HBOX.out
      refine (WRat_calls w3 _ _ _ _ _ _ HW1.out HW2.out (by have := HLX.out.1; have := HKB.out; unfold lim at *; omega) (by have := HLX.out.2; have := HKB.out; unfold lim at *; omega) (by rw [val_digs]; have := den_ne x.val; omega)).mono ?_
      rintro e w5 ⟨bx, rfl, hr5, hb5, hg5⟩
      rw [val_digs, val_digs, sg_self, show sg false (x.val.den : Int).natAbs = (x.val.den : Int) from by simp [sg], Rat.num_divInt_den] at hr5
      have HR5 := Lib.hid hr5
      have HG5 := Lib.hid hg5
      clear hr5 hb5 hg5 k3 k4 k5 k6
      go_wp2_with fail
      refine (RAdd_calls w5 (s + 1) (s + 1) bx _ _ _ (HRB.out.more HG5.out) (HRB.out.more HG5.out) HR5.out (L.length * (K + 2) + 1 + K) (by have := HKB.out; omega) (HLA.out.mono (by omega)) (HLX.out.mono (by omega))).mono ?_
      rintro e w6 ⟨rfl, hr6, hg6⟩
      have H6 := Lib.hid (And.intro hr6 hg6)
      clear hr6 hg6
      go_wp2_with fail
      go_end0
      exact ⟨rfl, add_end (by first | exact HMS.out | (rw [List.length_set]; exact HMS.out)) HE3.out (by omega) HEC.out (fun i c hh => by rw [← HSND.out i c]; unfold putE; rw [if_neg (fun h2 => hh ⟨h2.1.trans hca2.symm, h2.2⟩)]) HG5.out H6.out.1 H6.out.2, (HBL3.out.trans (below_none HG5.out (Nat.le_trans (by rw [hsz]; exact hb0) HBL3.out.size))).trans (below_row H6.out.2 ((HRB.out.more HG5.out).soft) HBS.out (Nat.le_trans (by rw [hsz]; exact hb0) (HBL3.out.trans (below_none HG5.out (Nat.le_trans (by rw [hsz]; exact hb0) HBL3.out.size))).size))⟩
    | some bq =>
      obtain ⟨b, q⟩ := bq
      go_wp2_with (first
        | (at_lookup; refine wpList_lookB rfl _ _ rfl x.col hx hmap rfl rfl (.pointer (some ⟨b, 0, none⟩)) true (by rw [hEc]; rfl) (by rw [hEc]; rfl) ?_)
        | fail)
      have hq := snd_some HSND.out hEc
      rw [← hca] at hEc hq
      rw [hq] at hEc
      have HBOX := Lib.hid (show wq.cell? ⟨s, 3, none⟩ = some (.bool (decide (x.val.num < 0))) ∧ wq.cell? ⟨s, 4, none⟩ = some (.slice A1 n1 c1) ∧ wq.cell? ⟨s, 5, none⟩ = some (.bool false) ∧ wq.cell? ⟨s, 6, none⟩ = some (.slice A2 n2 c2) from ⟨b3, b4, b5, b6⟩)
      have HRB := Lib.hid ((HE1.out.rats _ _ _ _ hEc).2)
      have HW1 := Lib.hid (HN1.out.more HGQ.out)
      have HW2 := Lib.hid (HN2.out.more HGQ.out)
      have HEC := Lib.hid hEc
      have HBB := Lib.hid ((HE1.out.rats _ _ _ _ hEc).1)
      clear hEc hq hmap
      obtain ⟨k3, k4, k5, k6⟩ : wq.cell? ⟨s, 3, none⟩ = some (.bool (decide (x.val.num < 0))) ∧ wq.cell? ⟨s, 4, none⟩ = some (.slice A1 n1 c1) ∧ wq.cell? ⟨s, 5, none⟩ = some (.bool false) ∧ wq.cell? ⟨s, 6, none⟩ = some (.slice A2 n2 c2) := HBOX.out
      refine (WRat_calls wq _ _ _ _ _ _ HW1.out HW2.out (by have := HLX.out.1; have := HKB.out; unfold lim at *; omega) (by have := HLX.out.2; have := HKB.out; unfold lim at *; omega) (by rw [val_digs]; have := den_ne x.val; omega)).mono ?_
      rintro e w5 ⟨bx, rfl, hr5, hb5, hg5⟩
      rw [val_digs, val_digs, sg_self, show sg false (x.val.den : Int).natAbs = (x.val.den : Int) from by simp [sg], Rat.num_divInt_den] at hr5
      have HR5 := Lib.hid hr5
      have HG5 := Lib.hid hg5
      clear hr5 hb5 hg5 k3 k4 k5 k6
      go_wp2_with fail
      refine (RAdd_calls w5 b b bx _ _ _ (HRB.out.more HG5.out) (HRB.out.more HG5.out) HR5.out (L.length * (K + 2) + 1 + K) (by have := HKB.out; omega) (HLA.out.mono (by omega)) (HLX.out.mono (by omega))).mono ?_
      rintro e w6 ⟨rfl, hr6, hg6⟩
      have H6 := Lib.hid (And.intro hr6 hg6)
      clear hr6 hg6
      go_wp2_with fail
      go_end0
      exact ⟨rfl, add_end HMS.out HE1.out (by omega) HEC.out (fun i c _ => HSND.out i c) HG5.out H6.out.1 H6.out.2, (below_none (gb_trans HGQ.out HG5.out) (by omega)).trans (below_row H6.out.2 ((HRB.out.more HG5.out).soft) HBB.out (by have := (gb_trans HGQ.out HG5.out).size; omega))⟩

end Go.Proofs.YtmfmfpmkgmkgiaaGreatDoor
