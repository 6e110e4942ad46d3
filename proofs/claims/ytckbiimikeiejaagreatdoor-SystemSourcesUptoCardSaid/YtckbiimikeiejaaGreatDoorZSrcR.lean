/- SystemSources returns true for every flat circuit and every step, where the reading is of bulk at most 1048576, in whatever memory they lie and on every schedule. Conditions: that bulk; the two tables of unicode/utf8 as the card ties them. -/
import Derived.Test.YtckbiimikeiejaaGreatDoorMbo
import Derived.Test.YtckbiimikeiejaaGreatDoorMbq
import Derived.Test.YtckbiimikeiejaaGreatDoorMbp
set_option linter.unusedVariables false
set_option linter.unusedSimpArgs false
namespace Go.Proofs.YtckbiimikeiejaaGreatDoor.sources
open Go.RowKit Go.ChangeShapes Go.WideShapes Go.ChangeAt
theorem laid_met (os:Os):laidMet Tryz.prog Rows.systemSourcesUptoRow.laid ((Ls os).forCall (fun _ _=>0) ⟨#[],#[.agg #[.slice none 0 0,.slice none 0 0,.int .i64 0,.int .i64 0,.int .i64 0],.int .i64 0],[]⟩).memory :=
 laidMet_of_run' 8 (by kernel_rfl) (by kernel_rfl)
theorem reads (os:Os) {H:Type} (enc:TypeId × Value→H):∃ places,DataW.whole enc Tryz.prog ((Ls os).forCall (fun _ _=>0) ⟨#[],#[.agg #[.slice none 0 0,.slice none 0 0,.int .i64 0,.int .i64 0,.int .i64 0],.int .i64 0],[]⟩).memory Tryz.f5.params.toList Rows.systemSourcesSpec.vars false #[Value.agg #[.slice none 0 0,.slice none 0 0,.int .i64 0,.int .i64 0,.int .i64 0],.int .i64 0].toList 8=some ([.agg [.nil,.nil,.agg [.lit (.int .i64 0),.lit (.int .i64 0)],.lit (.int .i64 0)],.lit (.int .i64 0)],[],places) :=
 ⟨[],by kernel_rfl⟩
set_option maxRecDepth 100000 in
theorem contract (H:Type) (enc:TypeId × Value→H) (W:World) (base:Nat) (args:Array Value) (ds gs:List (DataW H)) (before:List MemPlace)
  (hval:∀ (j:Nat) t v,Tryz.f5.params[j]? = some t→args[j]? = some v→Value.okWide Tryz.prog W .any base t v)
  (hW:DataW.Whole enc Tryz.prog Tryz.f5.params.toList Rows.systemSourcesSpec.vars false W args.toList ds gs before)
  (hk:Rows.uptoSmall H (ds++gs)=true) (hsh:W.ShapedOpen Tryz.prog) :
  Calls Tryz.prog 5 args W fun e W'=>∃ v,e=.returned v∧Rows.systemSourcesSpec.post enc Tryz.prog Tryz.f5 false true false false W args v W':=by
 have hW':=hW
 obtain ⟨p,q,hA0,hV,rfl,hfz,hnd⟩:=hW
 have hA:DataW.TrodAll enc Tryz.prog W 0 (fun _=>true) true Tryz.f5.params.toList args.toList ds p:=hA0
 rw [Tryz.params5] at hA hval
 obtain ⟨v0,vs0,d0,ds0,p0,q0,hargs,rfl,rfl,⟨n0,h0⟩,r0⟩:=trodAll_cons hA
 obtain ⟨v1,vs1,d1,ds1,p1,q1,rfl,rfl,rfl,⟨n1,h1⟩,r1⟩:=trodAll_cons r0
 obtain ⟨rfl,rfl,rfl⟩:=trodAll_nil r1
 obtain rfl:args=#[v0,v1]:=by cases args;simp_all
 obtain ⟨rfl,rfl⟩:=trodVars_none hV
 clear hA0
 obtain ⟨cs,rfl,_⟩:=okWide_struct Tryz.underlying27 (hval 0 27 v0 rfl rfl)
 obtain ⟨step,rfl⟩:=okWide_int Tryz.underlying3 (hval 1 3 v1 rfl rfl)
 have hb:Rows.uptoBulk d0≤1048576:=by
  have h:Rows.uptoBulkAll ([d0,d1]++[])≤1048576:=of_decide_eq_true hk
  exact Nat.le_trans (Ji (by simp)) h
 obtain ⟨f,A1,c1,A2,c2,hcs,hfl,hsm⟩:=A0o h0 hb
 obtain rfl:cs=#[.slice A1 f.nodes.length c1,.slice A2 f.devs.length c2,.int .i64 f.step.1,.int .i64 f.step.2,.int .i64 f.method]:=by cases cs;simp_all [Value.cells]
 refine (Y6 W f A1 c1 A2 c2 hfl (A0f hsh) (fun d hd=>(hsm d hd).1) step).mono fun e W' ⟨he,hg⟩=>?_
 subst he
 exact ⟨_,rfl,Za A0i Tryz.underlying4 rfl rfl (by rw [Tryz.params5];intro t ht;simp at ht;rcases ht with rfl | rfl<;>exact ⟨by kernel_rfl,of_decide_eq_true (by kernel_rfl)⟩) rfl hW' hg⟩
set_option maxRecDepth 100000 in
theorem lifted (os:Os) (started:os.Started) (H:Type) (enc:TypeId × Value→H) (F:Stop.Interp) :
  ReturnsInHanded {} Tryz.checked os 5 .any ((Rows.OpenSpec.upto Rows.systemSourcesSpec).preRow enc Tryz.prog Tryz.f5 Rows.systemSourcesUptoRow.domain false Rows.systemSourcesUptoRow.laid) (((Rows.OpenSpec.upto Rows.systemSourcesSpec).at F).post enc Tryz.prog Tryz.f5 false true false false):=by
 obtain ⟨places,hx⟩:=reads os enc
 refine returnsInHanded_of_row (C:=Tryz.checked) (s:=Rows.OpenSpec.upto Rows.systemSourcesSpec) own started (by kernel_rfl) Tryz.func5
  (witness_row_at (enc:=enc) (C:=Tryz.checked) false (Ls os) #[.agg #[.slice none 0 0,.slice none 0 0,.int .i64 0,.int .i64 0,.int .i64 0],.int .i64 0] rfl (by kernel_rfl) (by kernel_rfl) (by kernel_rfl)
   (OpenSpec.preRow_of_cond 8 hx (by kernel_rfl) (fun k hk=>by cases hk;kernel_rfl) (by kernel_rfl) (laid_met os))) ?_
 intro W base args ds gs before hval hW _ hcond _ _ hsh _
 exact contract H enc W base args ds gs before hval hW (hcond _ rfl) hsh
set_option maxRecDepth 100000 in
theorem said:Rows.SystemSourcesUptoSaid :=
 OpenClaim.holds_of_cond 5 Tryz.f5 rfl rfl rfl rfl rfl rfl rfl ⟨rfl,rfl,rfl,rfl,rfl⟩ rfl rfl rfl rfl rfl (by kernel_rfl) Tryz.func5 U1
  (of_decide_eq_true (by kernel_rfl)) (by unfold Func.isWrapper;first | (rw [if_pos (by decide +kernel)];kernel_rfl) | (rw [if_neg (by decide +kernel)];exact ⟨rfl,rfl⟩))
  (fun os started H enc _ F=>by rw [OpenClaim.pre_eq_preRow];exact lifted os started H enc F)
theorem plain (f : FuncId) (fn : Func) (hf : Tryz.pinned.checked.prog.funcNamed "shunt/shuntlaw12.SystemSources" = some f) (hfn : Tryz.pinned.checked.prog.funcs[f]? = some fn) :
  false=Tryz.pinned.checked.prog.looks []∧∀ (j:Nat) t,fn.params[j]? = some t→Tryz.pinned.checked.prog.wantsStandIn t=false:=by
 obtain rfl : f = 5 := Option.some.inj ((show Tryz.prog.funcNamed "shunt/shuntlaw12.SystemSources" = some 5 by kernel_rfl).symm.trans hf) |>.symm
 obtain rfl:fn=Tryz.f5:=(Option.some.inj (Tryz.func5.symm.trans hfn)).symm
 refine ⟨by kernel_rfl,fun j t ht=>?_⟩
 rw [Tryz.params5] at ht
 have hm:=Array.mem_of_getElem? ht
 simp at hm
 rcases hm with rfl | rfl<;>exact (show Tryz.prog.wantsStandIn _=false by kernel_rfl)
theorem card:Rows.SystemSourcesUptoCardSaid :=
 Claim7.holds_tied_plain_at .later [] _ _ _ _ said (fun _ h=>by cases h) (by kernel_rfl) (fun _ h=>by cases h) systemSourcesUpto_row_tie rfl ⟨rfl,rfl⟩ (by kernel_rfl) rfl plain (by kernel_rfl)
end Go.Proofs.YtckbiimikeiejaaGreatDoor.sources
namespace Go.Proofs.YtckbiimikeiejaaGreatDoor
theorem systemSources_card:Rows.SystemSourcesUptoCardSaid:=sources.card
end Go.Proofs.YtckbiimikeiejaaGreatDoor