/- SystemSides returns true for every system and every two lists of numbers, in whatever memory they lie and on every schedule. Conditions: the form's own reach; the two tables of unicode/utf8 as the card ties them. -/
import Derived.Test.YtmfmfpmkgmkgiaaGreatDoorMaj
import Derived.Test.YtmfmfpmkgmkgiaaGreatDoorMaz
set_option linter.unusedVariables false
set_option linter.unusedSimpArgs false
namespace Go.Proofs.YtmfmfpmkgmkgiaaGreatDoor.sides
open Go.RowKit Go.ChangeShapes Go.WideShapes Go.ChangeAt

theorem laid_met (os : Os) : laidMet Tryz.prog Rows.systemSidesRow.laid ((laidWorld os).forCall (fun _ _ => 0) ⟨#[], #[.agg #[.slice none 0 0], .slice none 0 0, .slice none 0 0], []⟩).memory :=
  laidMet_of_run' 8 (by kernel_rfl) (by kernel_rfl)
theorem reads (os : Os) {H : Type} (enc : TypeId × Value → H) : ∃ places, DataW.whole enc Tryz.prog ((laidWorld os).forCall (fun _ _ => 0) ⟨#[], #[.agg #[.slice none 0 0], .slice none 0 0, .slice none 0 0], []⟩).memory Tryz.f4.params.toList Rows.systemSidesSpec.vars false #[Value.agg #[.slice none 0 0], .slice none 0 0, .slice none 0 0].toList 8 = some ([.agg [.nil], .nil, .nil], [], places) :=
  ⟨[], by kernel_rfl⟩

set_option maxRecDepth 100000 in
theorem contract (H : Type) (enc : TypeId × Value → H) (W : World) (base : Nat) (args : Array Value) (ds gs : List (DataW H)) (before : List MemPlace)
    (hval : ∀ (j : Nat) t v, Tryz.f4.params[j]? = some t → args[j]? = some v → Value.okWide Tryz.prog W .any base t v)
    (hW : DataW.Whole enc Tryz.prog Tryz.f4.params.toList Rows.systemSidesSpec.vars false W args.toList ds gs before)
    (hwt : (DataW.weightsEach Tryz.prog (Tryz.f4.params.toList ++ (OpenSpec.ofChange Rows.systemSidesSpec).bare.plain.varTypes Tryz.prog) (ds ++ gs)).all (· ≤ reachBytes) = true) (hsh : W.ShapedOpen Tryz.prog) :
    Calls Tryz.prog 4 args W fun e W' => ∃ v, e = .returned v ∧ Rows.systemSidesSpec.post enc Tryz.prog Tryz.f4 false true false false W args v W' := by
  have hW' := hW
  obtain ⟨p, q, hA0, hV, rfl, hfz, hnd⟩ := hW
  have hA : DataW.TrodAll enc Tryz.prog W 0 (fun _ => true) true Tryz.f4.params.toList args.toList ds p := hA0
  rw [Tryz.params4] at hA hval hwt
  obtain ⟨v0, vs0, d0, ds0, p0, q0, hargs, rfl, rfl, ⟨n0, h0⟩, r0⟩ := trodAll_cons hA
  obtain ⟨v1, vs1, d1, ds1, p1, q1, rfl, rfl, rfl, ⟨n1, h1⟩, r1⟩ := trodAll_cons r0
  obtain ⟨v2, vs2, d2, ds2, p2, q2, rfl, rfl, rfl, ⟨n2, h2⟩, r2⟩ := trodAll_cons r1
  obtain ⟨rfl, rfl, rfl⟩ := trodAll_nil r2
  obtain rfl : args = #[v0, v1, v2] := by cases args; simp_all
  obtain ⟨rfl, rfl⟩ := trodVars_none hV
  clear hA0
  obtain ⟨cs, rfl, _⟩ := okWide_struct Tryz.underlying38 (hval 0 38 v0 rfl rfl)
  obtain ⟨A1, m1, c1, rfl⟩ := okWide_slice Tryz.underlying59 (hval 1 59 v1 rfl rfl)
  obtain ⟨A2, m2, c2, rfl⟩ := okWide_slice Tryz.underlying59 (hval 2 59 v2 rfl rfl)
  obtain ⟨va, l, hcs, hl⟩ := rd_System h0
  obtain ⟨vb, prev, hcb, hp, bp⟩ := rd_ints Tryz.underlying59 Tryz.underlying2 rc_i64 h1
  obtain ⟨vc, src, hcc, hs, bs⟩ := rd_ints Tryz.underlying59 Tryz.underlying2 rc_i64 h2
  obtain rfl : cs = #[va] := by cases cs; simp_all [Value.cells]
  obtain rfl : vb = .slice A1 m1 c1 := by simpa [Value.cells] using hcb.symm
  obtain rfl : vc = .slice A2 m2 c2 := by simpa [Value.cells] using hcc.symm
  have hall := List.all_eq_true.1 hwt
  have b1 := ints_reach bp (fun x hx => by simpa using hall x (by simp [DataW.weightsEach, hx]))
  have b2 := ints_reach bs (fun x hx => by simpa using hall x (by simp [DataW.weightsEach, hx]))
  refine (Sides_calls W _ _ _ l prev src (glob_of hsh) hl hp hs b1 b2).mono fun e W' ⟨he, hg⟩ => ?_
  subst he
  exact ⟨_, rfl, law_post laidOut Tryz.underlying4 rfl rfl (by rw [Tryz.params4]; intro t ht; simp at ht; rcases ht with rfl | rfl <;> exact ⟨by kernel_rfl, of_decide_eq_true (by kernel_rfl)⟩) rfl hW' hg⟩

set_option maxRecDepth 100000 in
theorem lifted (os : Os) (started : os.Started) (H : Type) (enc : TypeId × Value → H) (F : Stop.Interp) :
    ReturnsInHanded {} Tryz.checked os 4 .any ((OpenSpec.ofChange Rows.systemSidesSpec).preRow enc Tryz.prog Tryz.f4 Rows.systemSidesRow.domain false Rows.systemSidesRow.laid) (((OpenSpec.ofChange Rows.systemSidesSpec).at F).post enc Tryz.prog Tryz.f4 false true false false) := by
  obtain ⟨places, hx⟩ := reads os enc
  refine returnsInHanded_of_row (C := Tryz.checked) (s := OpenSpec.ofChange Rows.systemSidesSpec) own started (by kernel_rfl) Tryz.func4
    (witness_row_at (enc := enc) (C := Tryz.checked) false (laidWorld os) #[.agg #[.slice none 0 0], .slice none 0 0, .slice none 0 0] rfl (by kernel_rfl) (by kernel_rfl) (by kernel_rfl)
      (OpenSpec.preRow_of_cond 8 hx (by kernel_rfl) (fun k hk => by cases hk) (by kernel_rfl) (laid_met os))) ?_
  intro W base args ds gs before hval hW _ _ hwt _ hsh _
  exact contract H enc W base args ds gs before hval hW hwt hsh

set_option maxRecDepth 100000 in
theorem said : Rows.SystemSidesSaid :=
  OpenClaim.holds_of_cond 4 Tryz.f4 rfl rfl rfl rfl rfl rfl rfl ⟨rfl, rfl, rfl, rfl, rfl⟩ rfl rfl rfl rfl rfl (by kernel_rfl) Tryz.func4 (by kernel_rfl)
    (of_decide_eq_true (by kernel_rfl)) (by unfold Func.isWrapper; first | (rw [if_pos (by decide +kernel)]; kernel_rfl) | (rw [if_neg (by decide +kernel)]; exact ⟨rfl, rfl⟩))
    (fun os started H enc _ F => by rw [OpenClaim.pre_eq_preRow]; exact lifted os started H enc F)
theorem plain (f : FuncId) (fn : Func) (hf : Tryz.pinned.checked.prog.funcNamed "shunt/shuntlaw12.SystemSides" = some f) (hfn : Tryz.pinned.checked.prog.funcs[f]? = some fn) :
    false = Tryz.pinned.checked.prog.looks [] ∧ ∀ (j : Nat) t, fn.params[j]? = some t → Tryz.pinned.checked.prog.wantsStandIn t = false := by
  obtain rfl : f = 4 := Option.some.inj ((show Tryz.prog.funcNamed "shunt/shuntlaw12.SystemSides" = some 4 by kernel_rfl).symm.trans hf) |>.symm
  obtain rfl : fn = Tryz.f4 := (Option.some.inj (Tryz.func4.symm.trans hfn)).symm
  refine ⟨by kernel_rfl, fun j t ht => ?_⟩
  rw [Tryz.params4] at ht
  have hm := Array.mem_of_getElem? ht
  simp at hm
  rcases hm with rfl | rfl <;> exact (show Tryz.prog.wantsStandIn _ = false by kernel_rfl)

theorem card : Rows.SystemSidesCardSaid :=
  Claim7.holds_tied_plain_at .later [] _ _ _ _ said (fun _ h => by cases h) (by kernel_rfl) (fun _ h => by cases h) systemSides_row_tie rfl ⟨rfl, rfl⟩ (by kernel_rfl) rfl plain (by kernel_rfl)
end Go.Proofs.YtmfmfpmkgmkgiaaGreatDoor.sides
namespace Go.Proofs.YtmfmfpmkgmkgiaaGreatDoor
theorem systemSides_card : Rows.SystemSidesCardSaid := sides.card
end Go.Proofs.YtmfmfpmkgmkgiaaGreatDoor
