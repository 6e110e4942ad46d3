/- SystemOrder returns true for every flat circuit, every question and every list of places whose reading is of bulk at most 1048576, in whatever memory they lie and on every schedule. Conditions: that bulk; the two tables of unicode/utf8 as the card ties them. -/
import Derived.Test.YtmfmfpmkgmkgiaaGreatDoorMah
import Derived.Test.YtmfmfpmkgmkgiaaGreatDoorMaj
import Derived.Test.YtmfmfpmkgmkgiaaGreatDoorMbj
import Derived.Test.YtmfmfpmkgmkgiaaGreatDoorMbk
set_option linter.unusedVariables false
set_option linter.unusedSimpArgs false
namespace Go.Proofs.YtmfmfpmkgmkgiaaGreatDoor.order
open Go.RowKit Go.ChangeShapes Go.WideShapes Go.ChangeAt
theorem laid_met (os:Os):laidMet Tryz.prog Rows.systemOrderUptoRow.laid ((Ls os).forCall (fun _ _=>0) ⟨#[],#[.agg #[.slice none 0 0,.slice none 0 0,.int .i64 0,.int .i64 0,.int .i64 0],.agg #[.int .i64 0,.int .i64 0,.int .i64 0,.int .i64 0,.slice none 0 0],.slice none 0 0],[]⟩).memory :=
 laidMet_of_run' 8 (by kernel_rfl) (by kernel_rfl)
theorem reads (os:Os) {H:Type} (enc:TypeId × Value→H):∃ places,DataW.whole enc Tryz.prog ((Ls os).forCall (fun _ _=>0) ⟨#[],#[.agg #[.slice none 0 0,.slice none 0 0,.int .i64 0,.int .i64 0,.int .i64 0],.agg #[.int .i64 0,.int .i64 0,.int .i64 0,.int .i64 0,.slice none 0 0],.slice none 0 0],[]⟩).memory Tryz.f7.params.toList Rows.systemOrderSpec.vars false #[Value.agg #[.slice none 0 0,.slice none 0 0,.int .i64 0,.int .i64 0,.int .i64 0],.agg #[.int .i64 0,.int .i64 0,.int .i64 0,.int .i64 0,.slice none 0 0],.slice none 0 0].toList 8=some ([.agg [.nil,.nil,.agg [.lit (.int .i64 0),.lit (.int .i64 0)],.lit (.int .i64 0)],.agg [.agg [.lit (.int .i64 0),.lit (.int .i64 0),.agg [.lit (.int .i64 0),.lit (.int .i64 0)]],.nil],.nil],[],places) :=
 ⟨[],by kernel_rfl⟩
theorem rc_Question:Tryz.prog.cellsOf 32=5:=by kernel_rfl
set_option maxRecDepth 100000 in
theorem rd_Question {H:Type} {enc:TypeId × Value→H} {w:World} {base:Nat} {spare:Nat→Bool} {held:Bool} {fuel:Nat} {cs:List Value} {x:DataW H × List MemPlace} (h:DataW.trod enc Tryz.prog w base spare held fuel 32 cs=some x) :
  ∃ mode method t1 t2 A c l,cs=[.int .i64 mode,.int .i64 method,.int .i64 t1,.int .i64 t2,.slice A (l:List Int).length c]∧I64 t1∧I64 t2∧IntRow w (.slice A l.length c) l:=by
 obtain ⟨n,hl,hf⟩:=Lz Tryz.underlying32 h
 rw [rc_Question] at hl
 match cs,hl with
 | [c0,c1,c2,c3,c4],_ =>
 obtain ⟨y0,h0⟩:=Gz hf 0 rfl (tt:=29) (o:=0) rfl rfl Od
 have h0:DataW.trod enc Tryz.prog w base spare held n 29 [c0,c1,c2,c3]=some y0:=h0
 obtain ⟨y1,h1⟩:=Gz hf 1 rfl (tt:=30) (o:=4) rfl rfl R2
 have h1:DataW.trod enc Tryz.prog w base spare held n 30 [c4]=some y1:=h1
 obtain ⟨mode,method,t1,t2,e0,i1,i2⟩:=Uw h0
 obtain ⟨A,l,c,e1,r,_⟩:=N1 Tryz.underlying30 Tryz.underlying3 Hq h1
 injection e0 with e0 e0'
 injection e0' with e0' e0''
 injection e0'' with e0'' e0'''
 injection e0''' with e0'''
 injection e1 with e1
 subst e0 e0' e0'' e0''' e1
 exact ⟨mode,method,t1,t2,A,c,l,rfl,i1,i2,r⟩
set_option maxRecDepth 100000 in
theorem contract (H:Type) (enc:TypeId × Value→H) (W:World) (base:Nat) (args:Array Value) (ds gs:List (DataW H)) (before:List MemPlace)
  (hval:∀ (j:Nat) t v,Tryz.f7.params[j]? = some t→args[j]? = some v→Value.okWide Tryz.prog W .any base t v)
  (hW:DataW.Whole enc Tryz.prog Tryz.f7.params.toList Rows.systemOrderSpec.vars false W args.toList ds gs before)
  (hk:Rows.uptoSmall H (ds++gs)=true) (hsh:W.ShapedOpen Tryz.prog) :
  Calls Tryz.prog 7 args W fun e W'=>∃ v,e=.returned v∧Rows.systemOrderSpec.post enc Tryz.prog Tryz.f7 false true false false W args v W':=by
 have hW':=hW
 obtain ⟨p,q,hA0,hV,rfl,hfz,hnd⟩:=hW
 have hA:DataW.TrodAll enc Tryz.prog W 0 (fun _=>true) true Tryz.f7.params.toList args.toList ds p:=hA0
 rw [Tryz.params7] at hA hval
 obtain ⟨v0,vs0,d0,ds0,p0,q0,hargs,rfl,rfl,⟨n0,h0⟩,r0⟩:=trodAll_cons hA
 obtain ⟨v1,vs1,d1,ds1,p1,q1,rfl,rfl,rfl,⟨n1,h1⟩,r1⟩:=trodAll_cons r0
 obtain ⟨v2,vs2,d2,ds2,p2,q2,rfl,rfl,rfl,⟨n2,h2⟩,r2⟩:=trodAll_cons r1
 obtain ⟨rfl,rfl,rfl⟩:=trodAll_nil r2
 obtain rfl:args=#[v0,v1,v2]:=by cases args;simp_all
 obtain ⟨rfl,rfl⟩:=trodVars_none hV
 clear hA0
 obtain ⟨cs,rfl,_⟩:=okWide_struct Tryz.underlying27 (hval 0 27 v0 rfl rfl)
 obtain ⟨cx,rfl,_⟩:=okWide_struct Tryz.underlying32 (hval 1 32 v1 rfl rfl)
 obtain ⟨Ax,mx,cpx,rfl⟩:=okWide_slice Tryz.underlying30 (hval 2 30 v2 rfl rfl)
 have hb:Rows.uptoBulk d0≤1048576:=by
  have h:Rows.uptoBulkAll ([d0,d1,d2]++[])≤1048576:=of_decide_eq_true hk
  exact Nat.le_trans (Ji (by simp)) h
 obtain ⟨f,A1,c1,A2,c2,hcs,hfl,hds⟩:=A0o h0 hb
 obtain ⟨mode,method,t1,t2,A,c,segs,hcx,i1,i2,hsg⟩:=rd_Question h1
 obtain rfl:cs=#[.slice A1 f.nodes.length c1,.slice A2 f.devs.length c2,.int .i64 f.step.1,.int .i64 f.step.2,.int .i64 f.method]:=by cases cs;simp_all [Value.cells]
 obtain rfl:cx=#[.int .i64 mode,.int .i64 method,.int .i64 t1,.int .i64 t2,.slice A segs.length c]:=by cases cx;simp_all [Value.cells]
 obtain ⟨Ap,pl,cp,hcp,hpl,_⟩:=N1 Tryz.underlying30 Tryz.underlying3 Hq h2
 have hcp':Value.slice Ax mx cpx=.slice Ap pl.length cp:=by simpa [Value.cells] using hcp
 rw [hcp'] at hW' ⊢
 refine (Ro W f A1 c1 A2 c2 hfl (A0f hsh) hds mode method (t1,t2) i1 i2 A c segs hsg Ap cp pl hpl).mono fun e W' ⟨he,hg⟩=>?_
 subst he
 exact ⟨_,rfl,Za A0i Tryz.underlying4 rfl rfl (by rw [Tryz.params7];intro t ht;simp at ht;rcases ht with rfl | rfl | rfl<;>exact ⟨by kernel_rfl,of_decide_eq_true (by kernel_rfl)⟩) rfl hW' hg⟩
set_option maxRecDepth 100000 in
theorem lifted (os:Os) (started:os.Started) (H:Type) (enc:TypeId × Value→H) (F:Stop.Interp) :
  ReturnsInHanded {} Tryz.checked os 7 .any ((Rows.OpenSpec.upto Rows.systemOrderSpec).preRow enc Tryz.prog Tryz.f7 Rows.systemOrderUptoRow.domain false Rows.systemOrderUptoRow.laid) (((Rows.OpenSpec.upto Rows.systemOrderSpec).at F).post enc Tryz.prog Tryz.f7 false true false false):=by
 obtain ⟨places,hx⟩:=reads os enc
 refine returnsInHanded_of_row (C:=Tryz.checked) (s:=Rows.OpenSpec.upto Rows.systemOrderSpec) own started (by kernel_rfl) Tryz.func7
  (witness_row_at (enc:=enc) (C:=Tryz.checked) false (Ls os) #[.agg #[.slice none 0 0,.slice none 0 0,.int .i64 0,.int .i64 0,.int .i64 0],.agg #[.int .i64 0,.int .i64 0,.int .i64 0,.int .i64 0,.slice none 0 0],.slice none 0 0] rfl (by kernel_rfl) (by kernel_rfl) (by kernel_rfl)
   (OpenSpec.preRow_of_cond 8 hx (by kernel_rfl) (fun k hk=>by cases hk;kernel_rfl) (by kernel_rfl) (laid_met os))) ?_
 intro W base args ds gs before hval hW _ hcond _ _ hsh _
 exact contract H enc W base args ds gs before hval hW (hcond _ rfl) hsh
set_option maxRecDepth 100000 in
theorem said:Rows.SystemOrderUptoSaid :=
 OpenClaim.holds_of_cond 7 Tryz.f7 rfl rfl rfl rfl rfl rfl rfl ⟨rfl,rfl,rfl,rfl,rfl⟩ rfl rfl rfl rfl rfl (by kernel_rfl) Tryz.func7 A27
  (of_decide_eq_true (by kernel_rfl)) (by unfold Func.isWrapper;first | (rw [if_pos (by decide +kernel)];kernel_rfl) | (rw [if_neg (by decide +kernel)];exact ⟨rfl,rfl⟩))
  (fun os started H enc _ F=>by rw [OpenClaim.pre_eq_preRow];exact lifted os started H enc F)
theorem plain (f : FuncId) (fn : Func) (hf : Tryz.pinned.checked.prog.funcNamed "shunt/shuntlaw12.SystemOrder" = some f) (hfn : Tryz.pinned.checked.prog.funcs[f]? = some fn) :
  false=Tryz.pinned.checked.prog.looks []∧∀ (j:Nat) t,fn.params[j]? = some t→Tryz.pinned.checked.prog.wantsStandIn t=false:=by
 obtain rfl : f = 7 := Option.some.inj ((show Tryz.prog.funcNamed "shunt/shuntlaw12.SystemOrder" = some 7 by kernel_rfl).symm.trans hf) |>.symm
 obtain rfl:fn=Tryz.f7:=(Option.some.inj (Tryz.func7.symm.trans hfn)).symm
 refine ⟨by kernel_rfl,fun j t ht=>?_⟩
 rw [Tryz.params7] at ht
 have hm:=Array.mem_of_getElem? ht
 simp at hm
 rcases hm with rfl | rfl | rfl<;>exact (show Tryz.prog.wantsStandIn _=false by kernel_rfl)
theorem card:Rows.SystemOrderUptoCardSaid :=
 Claim7.holds_tied_plain_at .later [] _ _ _ _ said (fun _ h=>by cases h) (by kernel_rfl) (fun _ h=>by cases h) systemOrderUpto_row_tie rfl ⟨rfl,rfl⟩ (by kernel_rfl) rfl plain (by kernel_rfl)
end Go.Proofs.YtmfmfpmkgmkgiaaGreatDoor.order
namespace Go.Proofs.YtmfmfpmkgmkgiaaGreatDoor
theorem systemOrder_card:Rows.SystemOrderUptoCardSaid:=order.card
end Go.Proofs.YtmfmfpmkgmkgiaaGreatDoor