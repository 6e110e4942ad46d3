/- SrcG. -/
import Derived.Test.YtckbiimikeiejaaGreatDoorMbg
import Derived.Test.YtckbiimikeiejaaGreatDoorMbi
set_option linter.unusedVariables false
set_option linter.unusedSimpArgs false
set_option maxHeartbeats 40000000
namespace Go.Proofs.YtckbiimikeiejaaGreatDoor
section
open Go.RowKit Go.Maps
def Bv (ds:List DevP) (step:Int):Nat→List Int
 | 0=>[]
 | t+1=>Bv ds step t++[if Nq (ds.getD t dev0).kind then atV (ds.getD t dev0).wkind (ds.getD t dev0).wvals (ds.getD t dev0).wsteps step else 0]
theorem V1 (ds:List DevP) (step:Int):∀ t,(Bv ds step t).length=t
 | 0=>rfl
 | t+1=>by
  have:=V1 ds step t
  simp only [Bv,List.length_append,List.length_cons,List.length_nil]
  omega
theorem A2g (ds:List DevP) (step:Int) (t:Nat):Bv ds step (t+1)=Bv ds step t++[if Nq (ds.getD t dev0).kind then atV (ds.getD t dev0).wkind (ds.getD t dev0).wvals (ds.getD t dev0).wsteps step else 0]:=rfl
def K8 (ds:List DevP) (step:Int) (k:Nat):Prop:=Nq (ds.getD k dev0).kind=true→atE (ds.getD k dev0).wkind (ds.getD k dev0).wvals (ds.getD k dev0).wsteps step=0
instance (ds:List DevP) (step:Int) (k:Nat):Decidable (K8 ds step k):=by unfold K8;infer_instance
def K9 (f:Bf) (step:Int):Int:=if Cq f≠0 then Cq f else if ∀ k,k<f.devs.length→K8 f.devs step k then 0 else 4
def X1 (f:Bf) (step:Int):List Int:=if K9 f step=0 then Bv f.devs step f.devs.length else []
theorem A3u {f:Bf} {step:Int} (h0:Cq f=0) (h:∀ k,k<f.devs.length→K8 f.devs step k):K9 f step=0∧X1 f step=Bv f.devs step f.devs.length:=by
 have:K9 f step=0:=by unfold K9;rw [if_neg (by omega),if_pos h]
 exact ⟨this,by unfold X1;rw [if_pos this]⟩
theorem A3v {f:Bf} {step:Int} (h0:Cq f=0) {k:Nat} (hk:k<f.devs.length) (h:¬ K8 f.devs step k):K9 f step=4∧X1 f step=[]:=by
 have:K9 f step=4:=by unfold K9;rw [if_neg (by omega),if_neg fun hh=>h (hh k hk)]
 exact ⟨this,by unfold X1;rw [if_neg (by omega)]⟩
theorem A3h {f:Bf} {step:Int} (h0:Cq f≠0):K9 f step=Cq f∧X1 f step=[]:=by
 have:K9 f step=Cq f:=by unfold K9;rw [if_pos h0]
 exact ⟨this,by unfold X1;rw [if_neg (by omega)]⟩
theorem X5 (w:World):Row w (.slice none 0 0) (ints []):=E5 (World.ownsRow_nil w w.heap.size 2 1)
set_option maxRecDepth 100000 in
theorem A2i (w:World) (f:Bf) (A1:Option Addr) (c1:Nat) (A2:Option Addr) (c2:Nat) (hf:FlatAt w f A1 c1 A2 c2) (hG:GlobOK w) (step:Int) :
  Calls Tryz.prog 30 #[.agg #[.slice A1 f.nodes.length c1,.slice A2 f.devs.length c2,.int .i64 f.step.1,.int .i64 f.step.2,.int .i64 f.method],.int .i64 step] w fun e w'=>∃ v,e=.returned (.tuple #[v,.int .i64 (K9 f step)])∧Row w' v (ints (X1 f step))∧w.grownBy w' none:=by
 have gw:=Af w (.cells #[.slice A1 f.nodes.length c1,.slice A2 f.devs.length c2,.int .i64 f.step.1,.int .i64 f.step.2,.int .i64 f.method] 27) none
 have hB:=FlatBox.of (Blk.new w #[.slice A1 f.nodes.length c1,.slice A2 f.devs.length c2,.int .i64 f.step.1,.int .i64 f.step.2,.int .i64 f.method] 27)
 have HB:=Ac hB
 have HF:=Ac hf
 have hn2:=hf.n2
 have HC:=Ac (Dm (w.alloc (.cells #[.slice A1 f.nodes.length c1,.slice A2 f.devs.length c2,.int .i64 f.step.1,.int .i64 f.step.2,.int .i64 f.method] 27)) f A1 c1 A2 c2 (hf.more gw) (hG.more gw))
 obtain ⟨p0,p1,p2,p3,p4⟩:=hB
 have HGW:=Ac gw
 clear hf hG gw
 obtain ⟨E,hE⟩:∃ E,Cq f=E:=⟨_,rfl⟩
 rw [hE] at HC
 go_enter Tryz.func30,Tryz.ntmps30
 go_wp2_with fail
 generalize w.alloc (.cells #[.slice A1 f.nodes.length c1,.slice A2 f.devs.length c2,.int .i64 f.step.1,.int .i64 f.step.2,.int .i64 f.method] 27)=wa at *
 generalize hs:w.heap.size=s at *
 clear hs
 refine HC.out.mono ?_
 rintro e w1 ⟨rfl,hg1⟩
 have HG1:=Ac (Ae HGW.out hg1)
 obtain ⟨p0,p1,p2,p3,p4⟩:=HB.out.more hg1
 clear hg1 HC HGW
 by_cases h0:E=0
 rotate_left
 ·have HN:=Ac (A3h (step:=step) (by rw [hE];exact h0))
  have HEE:=Ac hE
  have t0:(E != 0)=true:=by rw [bne_iff_ne];exact h0
  clear hE h0
  go_wp2_with fail
  go_ret2
  refine ⟨.slice none 0 0,by rw [HN.out.1,HEE.out];rfl,?_,HG1.out⟩
  rw [HN.out.2]
  exact X5 _
 subst h0
 have HE:=Ac hE
 clear hE
 go_wp2_with fail
 go_loopw [7,20] (fun v i wr=>∃ k:Nat,k≤f.devs.length∧i=.int .i64 k∧wr.ownsRow w1.heap.size 2 1 v k (ints (Bv f.devs step k))∧w1.grownBy wr none∧Hid (∀ j,j<k→K8 f.devs step j)) (fun _ i _=>(f.devs.length-intOf i).toNat)
 case atStart=>exact ⟨0,by omega,rfl,World.ownsRow_nil _ _ _ _,Al _ _,Ac (fun j hj=>by omega)⟩
 case round =>
  obtain ⟨k,hk,rfl,hown,hg,hok⟩:=hrel
  have hbl:=V1 f.devs step k
  by_cases hlt:k<f.devs.length
  ·obtain ⟨b,o,An,cn,Av,cv,As,cs,Ag,cg,Am,cm,rfl,hat,hc⟩:=(HF.out.more (Ae HG1.out hg)).devs.at2 hlt
   have hbs:=A2g f.devs step k
   have hso:K8 f.devs step k↔(Nq (f.devs.getD k dev0).kind=true→atE (f.devs.getD k dev0).wkind (f.devs.getD k dev0).wvals (f.devs.getD k dev0).wsteps step=0):=Iff.rfl
   generalize f.devs.getD k dev0=d at *
   obtain ⟨q0,q1,q2,q3,q4,q5,q6,q7,q8,q9,q10,q11,q12⟩:=hc
   have ga:=Af wr (.cells #[.int .u8 d.kind,.string d.name,.slice An d.nodes.length cn,.int .i64 d.ref,.int .i64 d.val.1,.int .i64 d.val.2,.int .i64 d.wkind,.slice Av d.wvals.length cv,.slice As d.wsteps.length cs,.string d.mname,.int .u8 d.mkind,.slice Ag d.mg.length cg,.slice Am d.mv.length cm] 89) none
   obtain ⟨r0,-,-,-,-,-,r6,r7,r8,-,-,-,-⟩:=DevBox.of (Blk.new wr #[.int .u8 d.kind,.string d.name,.slice An d.nodes.length cn,.int .i64 d.ref,.int .i64 d.val.1,.int .i64 d.val.2,.int .i64 d.wkind,.slice Av d.wvals.length cv,.slice As d.wsteps.length cs,.string d.mname,.int .u8 d.mkind,.slice Ag d.mg.length cg,.slice Am d.mv.length cm] 89)
   have hown2:=hown.alloc (.cells #[.int .u8 d.kind,.string d.name,.slice An d.nodes.length cn,.int .i64 d.ref,.int .i64 d.val.1,.int .i64 d.val.2,.int .i64 d.wkind,.slice Av d.wvals.length cv,.slice As d.wsteps.length cs,.string d.mname,.int .u8 d.mkind,.slice Ag d.mg.length cg,.slice Am d.mv.length cm] 89)
   have hsb:=(Ae hg ga).size
   by_cases hb:d.kind=118∨d.kind=105
   ·have hbb:Nq d.kind=true:=by unfold Nq;rcases hb with h | h<;>simp [h]
    rw [if_pos hbb] at hbs
    have hwc:=(A3i (wr.alloc (.cells #[.int .u8 d.kind,.string d.name,.slice An d.nodes.length cn,.int .i64 d.ref,.int .i64 d.val.1,.int .i64 d.val.2,.int .i64 d.wkind,.slice Av d.wvals.length cv,.slice As d.wsteps.length cs,.string d.mname,.int .u8 d.mkind,.slice Ag d.mg.length cg,.slice Am d.mv.length cm] 89)) d.wkind (.slice Av d.wvals.length cv) (.slice As d.wsteps.length cs) d.wvals d.wsteps step (hat.vals.more ga) (hat.steps.more ga))
    obtain ⟨E,hE⟩:∃ E,atE d.wkind d.wvals d.wsteps step=E:=⟨_,rfl⟩
    rw [hE] at hwc hso
    have HWC:=Ac hwc
    clear hwc hE
    generalize atV d.wkind d.wvals d.wsteps step=V at *
    have HBS:=Ac hbs
    have HGA:=Ac (Ae hg ga)
    have HOW:=Ac hown2
    have HLT:=Ac hlt
    have HSO:=Ac (hso.trans ⟨fun h=>h hbb,fun h _=>h⟩)
    have hkk:(d.kind==118)=true∨((d.kind==118)=false∧(d.kind==105)=true):=by
     simp only [beq_iff_eq,beq_eq_false_iff_ne];omega
    clear hbs hb hbb hat hg ga hown hown2 hso
    rcases hkk with t118 | ⟨t118,t105⟩
    all_goals
     go_wp2_with fail
     generalize wr.alloc (.cells #[.int .u8 d.kind,.string d.name,.slice An d.nodes.length cn,.int .i64 d.ref,.int .i64 d.val.1,.int .i64 d.val.2,.int .i64 d.wkind,.slice Av d.wvals.length cv,.slice As d.wsteps.length cs,.string d.mname,.int .u8 d.mkind,.slice Ag d.mg.length cg,.slice Am d.mv.length cm] 89)=wb at HWC HGA HOW r0 r6 r7 r8 hsb ⊢
     refine HWC.out.mono ?_
     rintro e w3 ⟨rfl,hg3⟩
     have hown2:=Xd HOW.out hg3
     have HGC:=Ac (Ae HGA.out hg3)
     have hs3:=hg3.size
     have HO2:=Ac hown2
     clear hg3 r0 r6 r7 r8
     by_cases h0:E=0
     ·subst h0
      have HOK:Hid (∀ j,j<k+1→K8 f.devs step j):=Ac fun j hj=>by
       by_cases h:j=k
       ·subst h;exact HSO.out.2 rfl
       ·exact hok.out j (by omega)
      clear hok
      go_wp2_with (first
       | (at_builtin;refine Fp w1.heap.size rfl (.tmp 41) (.tmp 43) 59 2 (.int .i64 0) 1 8 rfl Tryz.underlying59 Pi rfl (by omega) (by omega) u7 k (ints (Bv f.devs step k)) #[.int .i64 V] (by rfl) hown2 (by rfl) rfl (by simp [Value.oneCell']) (by omega) (by omega) ?_;intro v1 w5 hown1 hg5 hat1)
       | fail)
      go_roundw
      case rel=>exact ⟨k+1,by omega,by go_num,by rw [HBS.out,F4];exact hown1,Ep HGC.out hg5 (D4 HO2.out),HOK.out⟩
      case measure=>simp [intOf];omega
     ·have HN:=Ac (A3v HE.out HLT.out (fun h=>h0 (HSO.out.1 h)))
      have t0:(E != 0)=true:=by rw [bne_iff_ne];exact h0
      clear h0 hok
      go_wp2_with fail
      go_ret2
      refine ⟨.slice none 0 0,by rw [HN.out.1];rfl,?_,Ae HG1.out HGC.out⟩
      rw [HN.out.2]
      exact X5 _
   ·have hbb:Nq d.kind=false:=by unfold Nq;simp;omega
    rw [if_neg (by rw [hbb];simp)] at hbs
    have HBS:=Ac hbs
    have HOK:Hid (∀ j,j<k+1→K8 f.devs step j):=Ac fun j hj=>by
     by_cases h:j=k
     ·subst h;exact hso.2 fun h=>by rw [hbb] at h;cases h
     ·exact hok.out j (by omega)
    have t118:(d.kind==118)=false:=by rw [beq_eq_false_iff_ne];omega
    have t105:(d.kind==105)=false:=by rw [beq_eq_false_iff_ne];omega
    clear hbs hb hbb hat hso hok
    have HGC:=Ac (Ae hg ga)
    have HO2:=Ac hown2
    go_upto_region 14 with (fail)
    generalize wr.alloc (.cells #[.int .u8 d.kind,.string d.name,.slice An d.nodes.length cn,.int .i64 d.ref,.int .i64 d.val.1,.int .i64 d.val.2,.int .i64 d.wkind,.slice Av d.wvals.length cv,.slice As d.wsteps.length cs,.string d.mname,.int .u8 d.mkind,.slice Ag d.mg.length cg,.slice Am d.mv.length cm] 89)=w3 at *
    go_wp2_with (first
     | (at_builtin;refine Fp w1.heap.size rfl (.tmp 41) (.tmp 43) 59 2 (.int .i64 0) 1 8 rfl Tryz.underlying59 Pi rfl (by omega) (by omega) u7 k (ints (Bv f.devs step k)) #[.int .i64 0] (by rfl) hown2 (by rfl) rfl (by simp [Value.oneCell']) (by omega) (by omega) ?_;intro v1 w5 hown1 hg5 hat1)
     | fail)
    go_roundw
    case rel=>exact ⟨k+1,by omega,by go_num,by rw [HBS.out,F4];exact hown1,Ep HGC.out hg5 (D4 HO2.out),HOK.out⟩
    case measure=>simp [intOf];omega
  ·obtain rfl:k=f.devs.length:=by omega
   have HR:=Ac (E5 hown)
   have HN:=Ac (A3u HE.out hok.out)
   clear hown hok
   go_wp2_with fail
   go_ret2
   refine ⟨_,by rw [HN.out.1];rfl,?_,Ae HG1.out hg⟩
   rw [HN.out.2]
   exact HR.out
end
end Go.Proofs.YtckbiimikeiejaaGreatDoor
