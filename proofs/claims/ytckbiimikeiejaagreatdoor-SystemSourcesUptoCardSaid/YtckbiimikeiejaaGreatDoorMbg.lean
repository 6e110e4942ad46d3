/- SrcA. -/
import Derived.Test.YtckbiimikeiejaaGreatDoorMaz
import Derived.Test.YtckbiimikeiejaaGreatDoorMbc
import Derived.Test.YtckbiimikeiejaaGreatDoorMap
set_option linter.unusedVariables false
set_option linter.unusedSimpArgs false
set_option maxHeartbeats 40000000
namespace Go.Proofs.YtckbiimikeiejaaGreatDoor
section
open Go.RowKit Go.Maps
theorem Row.introw {w:World} {v:Value} {l:List Int} (h:Row w v (ints l)) (hi:∀ x∈l,I64 x):IntRow w v l:=by
 obtain ⟨A,c,rfl,h1,h2,h3⟩:=h
 have hl:(ints l).length=l.length:=by simp [ints]
 rw [hl] at h1
 refine ⟨A,c,by rw [hl],h1,h2,hi,fun hp=>?_⟩
 rcases h3 with ⟨h0,_⟩ | ⟨b,o,rfl,h3⟩
 ·have:=congrArg List.length h0;rw [hl] at this;exact absurd (show l.length=0 from this) (by omega)
 ·refine ⟨b,o,rfl,fun i hj=>?_⟩
  rw [h3 i (by omega)]
  simp [ints,hj,List.getD]
theorem Pi:(Tryz.prog.info? 2).map (fun i=>(i.zero,i.size,i.bytes))=some (some (.int .i64 0),1,8):=by kernel_rfl
def Nq (k:Int):Bool:=decide (k=118)||decide (k=105)
def srcs (ds:List DevP) (step:Int):Nat→List Int
 | 0=>[]
 | t+1=>srcs ds step t++[if Nq (ds.getD t dev0).kind then dcV (ds.getD t dev0).wvals step else 0]
theorem Mp (ds:List DevP) (step:Int):∀ t,(srcs ds step t).length=t
 | 0=>rfl
 | t+1=>by
  have:=Mp ds step t
  simp only [srcs,List.length_append,List.length_cons,List.length_nil]
  omega
theorem Xj (ds:List DevP) (step:Int) (t:Nat):srcs ds step (t+1)=srcs ds step t++[if Nq (ds.getD t dev0).kind then dcV (ds.getD t dev0).wvals step else 0]:=rfl
set_option maxRecDepth 100000 in
theorem Nd (w:World) (f:Bf) (A1:Option Addr) (c1:Nat) (A2:Option Addr) (c2:Nat) (hf:FlatAt w f A1 c1 A2 c2) (hG:GlobOK w) (h0:Cq f=0) (step:Int)
  (hw:∀ k,k<f.devs.length→Nq (f.devs.getD k dev0).kind=true→(f.devs.getD k dev0).wkind=1∧Di 1 (f.devs.getD k dev0).wvals (f.devs.getD k dev0).wsteps∧dcE (f.devs.getD k dev0).wvals step=0) :
  Calls Tryz.prog 30 #[.agg #[.slice A1 f.nodes.length c1,.slice A2 f.devs.length c2,.int .i64 f.step.1,.int .i64 f.step.2,.int .i64 f.method],.int .i64 step] w fun e w'=>∃ v,e=.returned (.tuple #[v,.int .i64 0])∧Row w' v (ints (srcs f.devs step f.devs.length))∧w.grownBy w' none:=by
 have gw:=Af w (.cells #[.slice A1 f.nodes.length c1,.slice A2 f.devs.length c2,.int .i64 f.step.1,.int .i64 f.step.2,.int .i64 f.method] 27) none
 have hB:=FlatBox.of (Blk.new w #[.slice A1 f.nodes.length c1,.slice A2 f.devs.length c2,.int .i64 f.step.1,.int .i64 f.step.2,.int .i64 f.method] 27)
 have HB:=Ac hB
 have HF:=Ac hf
 have hn2:=hf.n2
 have HW:=Ac hw
 have HC:=Ac (Dm (w.alloc (.cells #[.slice A1 f.nodes.length c1,.slice A2 f.devs.length c2,.int .i64 f.step.1,.int .i64 f.step.2,.int .i64 f.method] 27)) f A1 c1 A2 c2 (hf.more gw) (hG.more gw))
 rw [h0] at HC
 obtain ⟨p0,p1,p2,p3,p4⟩:=hB
 have HGW:=Ac gw
 clear hf hG h0 hw gw
 go_enter Tryz.func30,Tryz.ntmps30
 go_wp2_with fail
 generalize w.alloc (.cells #[.slice A1 f.nodes.length c1,.slice A2 f.devs.length c2,.int .i64 f.step.1,.int .i64 f.step.2,.int .i64 f.method] 27)=wa at *
 generalize hs:w.heap.size=s at *
 clear hs
 refine HC.out.mono ?_
 rintro e w1 ⟨rfl,hg1⟩
 have HG1:=Ac (Ae HGW.out hg1)
 obtain ⟨p0,p1,p2,p3,p4⟩:=HB.out.more hg1
 clear hg1 HC HGW
 go_wp2_with fail
 go_loopw [7,20] (fun v i wr=>∃ k:Nat,k≤f.devs.length∧i=.int .i64 k∧wr.ownsRow w1.heap.size 2 1 v k (ints (srcs f.devs step k))∧w1.grownBy wr none) (fun _ i _=>(f.devs.length-intOf i).toNat)
 case atStart=>exact ⟨0,by omega,rfl,World.ownsRow_nil _ _ _ _,Al _ _⟩
 case round =>
  obtain ⟨k,hk,rfl,hown,hg⟩:=hrel
  have hbl:=Mp f.devs step k
  by_cases hlt:k<f.devs.length
  ·obtain ⟨b,o,An,cn,Av,cv,As,cs,Ag,cg,Am,cm,rfl,hat,hc⟩:=(HF.out.more (Ae HG1.out hg)).devs.at2 hlt
   have hbs:=Xj f.devs step k
   have hwk:=HW.out k hlt
   generalize f.devs.getD k dev0=d at *
   obtain ⟨q0,q1,q2,q3,q4,q5,q6,q7,q8,q9,q10,q11,q12⟩:=hc
   have ga:=Af wr (.cells #[.int .u8 d.kind,.string d.name,.slice An d.nodes.length cn,.int .i64 d.ref,.int .i64 d.val.1,.int .i64 d.val.2,.int .i64 d.wkind,.slice Av d.wvals.length cv,.slice As d.wsteps.length cs,.string d.mname,.int .u8 d.mkind,.slice Ag d.mg.length cg,.slice Am d.mv.length cm] 89) none
   obtain ⟨r0,-,-,-,-,-,r6,r7,r8,-,-,-,-⟩:=DevBox.of (Blk.new wr #[.int .u8 d.kind,.string d.name,.slice An d.nodes.length cn,.int .i64 d.ref,.int .i64 d.val.1,.int .i64 d.val.2,.int .i64 d.wkind,.slice Av d.wvals.length cv,.slice As d.wsteps.length cs,.string d.mname,.int .u8 d.mkind,.slice Ag d.mg.length cg,.slice Am d.mv.length cm] 89)
   have hown2:=hown.alloc (.cells #[.int .u8 d.kind,.string d.name,.slice An d.nodes.length cn,.int .i64 d.ref,.int .i64 d.val.1,.int .i64 d.val.2,.int .i64 d.wkind,.slice Av d.wvals.length cv,.slice As d.wsteps.length cs,.string d.mname,.int .u8 d.mkind,.slice Ag d.mg.length cg,.slice Am d.mv.length cm] 89)
   have hsb:=(Ae hg ga).size
   by_cases hb:d.kind=118∨d.kind=105
   ·have hbb:Nq d.kind=true:=by unfold Nq;rcases hb with h | h<;>simp [h]
    rw [if_pos hbb] at hbs
    obtain ⟨hk1,hok,he⟩:=hwk hbb
    have hwc:=(U8 (wr.alloc (.cells #[.int .u8 d.kind,.string d.name,.slice An d.nodes.length cn,.int .i64 d.ref,.int .i64 d.val.1,.int .i64 d.val.2,.int .i64 d.wkind,.slice Av d.wvals.length cv,.slice As d.wsteps.length cs,.string d.mname,.int .u8 d.mkind,.slice Ag d.mg.length cg,.slice Am d.mv.length cm] 89)) (.slice Av d.wvals.length cv) (.slice As d.wsteps.length cs) d.wvals d.wsteps step (hat.vals.more ga) (hat.steps.more ga) hok)
    rw [he,←hk1] at hwc
    have HWC:=Ac hwc
    clear hwc
    generalize dcV d.wvals step=V at *
    have HBS:=Ac hbs
    have HGA:=Ac (Ae hg ga)
    have HOW:=Ac hown2
    have HLT:=Ac hlt
    have hkk:(d.kind==118)=true∨((d.kind==118)=false∧(d.kind==105)=true):=by
     simp only [beq_iff_eq,beq_eq_false_iff_ne];omega
    clear hbs hb hbb hat hok he hk1 hwk hg ga hown hown2
    rcases hkk with t118 | ⟨t118,t105⟩
    all_goals
     go_wp2_with fail
     generalize wr.alloc (.cells #[.int .u8 d.kind,.string d.name,.slice An d.nodes.length cn,.int .i64 d.ref,.int .i64 d.val.1,.int .i64 d.val.2,.int .i64 d.wkind,.slice Av d.wvals.length cv,.slice As d.wsteps.length cs,.string d.mname,.int .u8 d.mkind,.slice Ag d.mg.length cg,.slice Am d.mv.length cm] 89)=wb at HWC HGA HOW r0 r6 r7 r8 hsb ⊢
     refine HWC.out.mono ?_
     rintro e w3 ⟨rfl,hg3⟩
     have hown2:=Xd HOW.out hg3
     have HGC:=Ac (Ae HGA.out hg3)
     have hs3:=hg3.size
     have HO2:=Ac hown2
     clear hg3 r0 r6 r7 r8
     go_wp2_with (first
      | (at_builtin;refine Fp w1.heap.size rfl (.tmp 41) (.tmp 43) 59 2 (.int .i64 0) 1 8 rfl Tryz.underlying59 Pi rfl (by omega) (by omega) u7 k (ints (srcs f.devs step k)) #[.int .i64 V] (by rfl) hown2 (by rfl) rfl (by simp [Value.oneCell']) (by omega) (by omega) ?_;intro v1 w5 hown1 hg5 hat1)
      | fail)
     go_roundw
     case rel=>exact ⟨k+1,by omega,by go_num,by rw [HBS.out,F4];exact hown1,Ep HGC.out hg5 (D4 HO2.out)⟩
     case measure=>simp [intOf];omega
   ·have hbb:Nq d.kind=false:=by unfold Nq;simp;omega
    rw [if_neg (by rw [hbb];simp)] at hbs
    have HBS:=Ac hbs
    have t118:(d.kind==118)=false:=by rw [beq_eq_false_iff_ne];omega
    have t105:(d.kind==105)=false:=by rw [beq_eq_false_iff_ne];omega
    clear hbs hb hbb hat hwk
    have HGC:=Ac (Ae hg ga)
    have HO2:=Ac hown2
    go_upto_region 14 with (fail)
    generalize wr.alloc (.cells #[.int .u8 d.kind,.string d.name,.slice An d.nodes.length cn,.int .i64 d.ref,.int .i64 d.val.1,.int .i64 d.val.2,.int .i64 d.wkind,.slice Av d.wvals.length cv,.slice As d.wsteps.length cs,.string d.mname,.int .u8 d.mkind,.slice Ag d.mg.length cg,.slice Am d.mv.length cm] 89)=w3 at *
    go_wp2_with (first
     | (at_builtin;refine Fp w1.heap.size rfl (.tmp 41) (.tmp 43) 59 2 (.int .i64 0) 1 8 rfl Tryz.underlying59 Pi rfl (by omega) (by omega) u7 k (ints (srcs f.devs step k)) #[.int .i64 0] (by rfl) hown2 (by rfl) rfl (by simp [Value.oneCell']) (by omega) (by omega) ?_;intro v1 w5 hown1 hg5 hat1)
     | fail)
    go_roundw
    case rel=>exact ⟨k+1,by omega,by go_num,by rw [HBS.out,F4];exact hown1,Ep HGC.out hg5 (D4 HO2.out)⟩
    case measure=>simp [intOf];omega
  ·obtain rfl:k=f.devs.length:=by omega
   have HR:=Ac (E5 hown)
   clear hown
   go_wp2_with fail
   go_ret2
   exact ⟨_,rfl,HR.out,Ae HG1.out hg⟩
end
end Go.Proofs.YtckbiimikeiejaaGreatDoor
