/- SystemAdds returns true for every system and every three lists of numbers, in whatever memory they lie and on every schedule. Conditions: the form's own reach; the two tables of unicode/utf8 as the card ties them. -/
import Derived.Test.YtmfmfpmkgmkgiaaGreatDoorMaj
import Derived.Test.YtmfmfpmkgmkgiaaGreatDoorMaz
set_option linter.unusedVariables false
set_option linter.unusedSimpArgs false
namespace Go.Proofs.YtmfmfpmkgmkgiaaGreatDoor.adds
open Go.RowKit Go.ChangeShapes Go.WideShapes Go.ChangeAt

theorem laid_met (os : Os) : laidMet Tryz.prog Rows.systemAddsRow.laid ((laidWorld os).forCall (fun _ _ => 0) ⟨#[], #[.agg #[.slice none 0 0], .agg #[.slice none 0 0, .slice none 0 0, .slice none 0 0]], []⟩).memory :=
  laidMet_of_run' 8 (by kernel_rfl) (by kernel_rfl)
theorem reads (os : Os) {H : Type} (enc : TypeId × Value → H) : ∃ places, DataW.whole enc Tryz.prog ((laidWorld os).forCall (fun _ _ => 0) ⟨#[], #[.agg #[.slice none 0 0], .agg #[.slice none 0 0, .slice none 0 0, .slice none 0 0]], []⟩).memory Tryz.f9.params.toList Rows.systemAddsSpec.vars false #[Value.agg #[.slice none 0 0], .agg #[.slice none 0 0, .slice none 0 0, .slice none 0 0]].toList 8 = some ([.agg [.nil], .agg [.nil, .nil, .nil]], [], places) :=
  ⟨[], by kernel_rfl⟩

theorem rc_i64s : Tryz.prog.cellsOf 59 = 1 := by kernel_rfl
theorem rc_Sides : Tryz.prog.cellsOf 99 = 3 := by kernel_rfl
set_option maxRecDepth 100000 in
theorem rd_Sides {H : Type} {enc : TypeId × Value → H} {w : World} {base : Nat} {spare : Nat → Bool} {held : Bool} {fuel : Nat} {cs : List Value} {x : DataW H × List MemPlace} (h : DataW.trod enc Tryz.prog w base spare held fuel 99 cs = some x) :
    ∃ v0 v1 v2 l0 l1 l2, cs = [v0, v1, v2] ∧ IntRow w v0 l0 ∧ IntRow w v1 l1 ∧ IntRow w v2 l2 := by
  obtain ⟨n, hl, hf⟩ := rd_struct Tryz.underlying99 h
  rw [rc_Sides] at hl
  match cs, hl with
  | [c0, c1, c2], _ =>
  obtain ⟨y0, h0⟩ := rd_field hf 0 rfl (tt := 59) (o := 0) rfl rfl rc_i64s
  obtain ⟨y1, h1⟩ := rd_field hf 1 rfl (tt := 59) (o := 1) rfl rfl rc_i64s
  obtain ⟨y2, h2⟩ := rd_field hf 2 rfl (tt := 59) (o := 2) rfl rfl rc_i64s
  obtain ⟨v0, l0, e0, i0, _⟩ := rd_ints Tryz.underlying59 Tryz.underlying2 rc_i64 h0
  obtain ⟨v1, l1, e1, i1, _⟩ := rd_ints Tryz.underlying59 Tryz.underlying2 rc_i64 h1
  obtain ⟨v2, l2, e2, i2, _⟩ := rd_ints Tryz.underlying59 Tryz.underlying2 rc_i64 h2
  have e0 : [c0] = [v0] := e0
  have e1 : [c1] = [v1] := e1
  have e2 : [c2] = [v2] := e2
  injection e0 with e0
  injection e1 with e1
  injection e2 with e2
  subst e0 e1 e2
  exact ⟨_, _, _, l0, l1, l2, rfl, i0, i1, i2⟩
set_option maxRecDepth 100000 in
theorem contract (H : Type) (enc : TypeId × Value → H) (W : World) (base : Nat) (args : Array Value) (ds gs : List (DataW H)) (before : List MemPlace)
    (hval : ∀ (j : Nat) t v, Tryz.f9.params[j]? = some t → args[j]? = some v → Value.okWide Tryz.prog W .any base t v)
    (hW : DataW.Whole enc Tryz.prog Tryz.f9.params.toList Rows.systemAddsSpec.vars false W args.toList ds gs before)
    (hwt : (DataW.weightsEach Tryz.prog (Tryz.f9.params.toList ++ (OpenSpec.ofChange Rows.systemAddsSpec).bare.plain.varTypes Tryz.prog) (ds ++ gs)).all (· ≤ reachBytes) = true) (hsh : W.ShapedOpen Tryz.prog) :
    Calls Tryz.prog 9 args W fun e W' => ∃ v, e = .returned v ∧ Rows.systemAddsSpec.post enc Tryz.prog Tryz.f9 false true false false W args v W' := by
  have hW' := hW
  obtain ⟨p, q, hA0, hV, rfl, hfz, hnd⟩ := hW
  have hA : DataW.TrodAll enc Tryz.prog W 0 (fun _ => true) true Tryz.f9.params.toList args.toList ds p := hA0
  rw [Tryz.params9] at hA hval hwt
  obtain ⟨v0, vs0, d0, ds0, p0, q0, hargs, rfl, rfl, ⟨n0, h0⟩, r0⟩ := trodAll_cons hA
  obtain ⟨v1, vs1, d1, ds1, p1, q1, rfl, rfl, rfl, ⟨n1, h1⟩, r1⟩ := trodAll_cons r0
  obtain ⟨rfl, rfl, rfl⟩ := trodAll_nil r1
  obtain rfl : args = #[v0, v1] := by cases args; simp_all
  obtain ⟨rfl, rfl⟩ := trodVars_none hV
  clear hA0
  obtain ⟨cs, rfl, _⟩ := okWide_struct Tryz.underlying38 (hval 0 38 v0 rfl rfl)
  obtain ⟨cx, rfl, _⟩ := okWide_struct Tryz.underlying99 (hval 1 99 v1 rfl rfl)
  obtain ⟨va, l, hcs, hl⟩ := rd_System h0
  obtain ⟨vp, vs, vm, prev, src, more, hcx, hp, hs, hm⟩ := rd_Sides h1
  obtain rfl : cs = #[va] := by cases cs; simp_all [Value.cells]
  obtain rfl : cx = #[vp, vs, vm] := by cases cx; simp_all [Value.cells]
  refine (Adds_calls W _ _ _ _ l prev src more (glob_of hsh) hl hp hs hm).mono fun e W' ⟨he, hg⟩ => ?_
  subst he
  exact ⟨_, rfl, law_post laidOut Tryz.underlying4 rfl rfl (by rw [Tryz.params9]; intro t ht; simp at ht; rcases ht with rfl | rfl <;> exact ⟨by kernel_rfl, of_decide_eq_true (by kernel_rfl)⟩) rfl hW' hg⟩

set_option maxRecDepth 100000 in
theorem lifted (os : Os) (started : os.Started) (H : Type) (enc : TypeId × Value → H) (F : Stop.Interp) :
    ReturnsInHanded {} Tryz.checked os 9 .any ((OpenSpec.ofChange Rows.systemAddsSpec).preRow enc Tryz.prog Tryz.f9 Rows.systemAddsRow.domain false Rows.systemAddsRow.laid) (((OpenSpec.ofChange Rows.systemAddsSpec).at F).post enc Tryz.prog Tryz.f9 false true false false) := by
  obtain ⟨places, hx⟩ := reads os enc
  refine returnsInHanded_of_row (C := Tryz.checked) (s := OpenSpec.ofChange Rows.systemAddsSpec) own started (by kernel_rfl) Tryz.func9
    (witness_row_at (enc := enc) (C := Tryz.checked) false (laidWorld os) #[.agg #[.slice none 0 0], .agg #[.slice none 0 0, .slice none 0 0, .slice none 0 0]] rfl (by kernel_rfl) (by kernel_rfl) (by kernel_rfl)
      (OpenSpec.preRow_of_cond 8 hx (by kernel_rfl) (fun k hk => by cases hk) (by kernel_rfl) (laid_met os))) ?_
  intro W base args ds gs before hval hW _ _ hwt _ hsh _
  exact contract H enc W base args ds gs before hval hW hwt hsh

set_option maxRecDepth 100000 in
theorem said : Rows.SystemAddsSaid :=
  OpenClaim.holds_of_cond 9 Tryz.f9 rfl rfl rfl rfl rfl rfl rfl ⟨rfl, rfl, rfl, rfl, rfl⟩ rfl rfl rfl rfl rfl (by kernel_rfl) Tryz.func9 (by kernel_rfl)
    (of_decide_eq_true (by kernel_rfl)) (by unfold Func.isWrapper; first | (rw [if_pos (by decide +kernel)]; kernel_rfl) | (rw [if_neg (by decide +kernel)]; exact ⟨rfl, rfl⟩))
    (fun os started H enc _ F => by rw [OpenClaim.pre_eq_preRow]; exact lifted os started H enc F)
theorem plain (f : FuncId) (fn : Func) (hf : Tryz.pinned.checked.prog.funcNamed "shunt/shuntlaw12.SystemAdds" = some f) (hfn : Tryz.pinned.checked.prog.funcs[f]? = some fn) :
    false = Tryz.pinned.checked.prog.looks [] ∧ ∀ (j : Nat) t, fn.params[j]? = some t → Tryz.pinned.checked.prog.wantsStandIn t = false := by
  obtain rfl : f = 9 := Option.some.inj ((show Tryz.prog.funcNamed "shunt/shuntlaw12.SystemAdds" = some 9 by kernel_rfl).symm.trans hf) |>.symm
  obtain rfl : fn = Tryz.f9 := (Option.some.inj (Tryz.func9.symm.trans hfn)).symm
  refine ⟨by kernel_rfl, fun j t ht => ?_⟩
  rw [Tryz.params9] at ht
  have hm := Array.mem_of_getElem? ht
  simp at hm
  rcases hm with rfl | rfl <;> exact (show Tryz.prog.wantsStandIn _ = false by kernel_rfl)

theorem card : Rows.SystemAddsCardSaid :=
  Claim7.holds_tied_plain_at .later [] _ _ _ _ said (fun _ h => by cases h) (by kernel_rfl) (fun _ h => by cases h) systemAdds_row_tie rfl ⟨rfl, rfl⟩ (by kernel_rfl) rfl plain (by kernel_rfl)
end Go.Proofs.YtmfmfpmkgmkgiaaGreatDoor.adds
namespace Go.Proofs.YtmfmfpmkgmkgiaaGreatDoor
theorem systemAdds_card : Rows.SystemAddsCardSaid := adds.card
end Go.Proofs.YtmfmfpmkgmkgiaaGreatDoor
