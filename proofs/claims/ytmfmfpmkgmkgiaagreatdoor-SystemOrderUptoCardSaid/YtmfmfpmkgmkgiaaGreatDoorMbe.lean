/- LawB LawD LawC AwA AwB RefN LawA Script AwC. -/
import Derived.Test.YtmfmfpmkgmkgiaaGreatDoorMao
import Derived.Test.YtmfmfpmkgmkgiaaGreatDoorMal
import Derived.Test.YtmfmfpmkgmkgiaaGreatDoorMar
import Derived.Test.YtmfmfpmkgmkgiaaGreatDoorMax
import Derived.Test.YtmfmfpmkgmkgiaaGreatDoorMah
import Derived.OrdersHeld
import Derived.RegionTactic
import Derived.Lib.Hide
set_option linter.unusedVariables false
set_option linter.unusedSimpArgs false
set_option maxHeartbeats 40000000
namespace Go.Proofs.YtmfmfpmkgmkgiaaGreatDoor
section
open Go.RowKit Go.Maps
theorem A22 (x:Int):I64 (wrap64 x):=by
 unfold I64 wrap64
 omega
end
section
open Go.RowKit Go.Maps
set_option maxRecDepth 100000 in
theorem Ry (w:World) (f:Bf) (A1:Option Addr) (c1:Nat) (A2:Option Addr) (c2:Nat) (hf:FlatAt w f A1 c1 A2 c2) :
  Calls Tryz.prog 11 #[.agg #[.slice A1 f.nodes.length c1,.slice A2 f.devs.length c2,.int .i64 f.step.1,.int .i64 f.step.2,.int .i64 f.method]] w fun e w'=>∃ b,e=.returned (.bool b)∧w.grownBy w' none:=by
 have gw:=Af w (.cells #[.slice A1 f.nodes.length c1,.slice A2 f.devs.length c2,.int .i64 f.step.1,.int .i64 f.step.2,.int .i64 f.method] 27) none
 have HFB:=FlatBox.of (Blk.new w #[.slice A1 f.nodes.length c1,.slice A2 f.devs.length c2,.int .i64 f.step.1,.int .i64 f.step.2,.int .i64 f.method] 27)
 have HF:=Ac (hf.more gw)
 have HGW:=Ac gw
 have hnl:f.nodes.length≤9223372036854775807:=by obtain ⟨A,c,e,h1,h2,_⟩:=hf.nodes;injection e with e1 e2 e3;omega
 have hdl:f.devs.length≤9223372036854775807:=by obtain ⟨A,c,e,h1,h2,_⟩:=hf.devs;injection e with e1 e2 e3;omega
 clear hf gw
 obtain ⟨p0,p1,p2,p3,p4⟩:=HFB
 go_enter Tryz.func11,Tryz.ntmps11
 go_wp2_with fail
 generalize w.alloc (.cells #[.slice A1 f.nodes.length c1,.slice A2 f.devs.length c2,.int .i64 f.step.1,.int .i64 f.step.2,.int .i64 f.method] 27)=wa at *
 generalize w.heap.size=s at *
 go_loopw [3,4] (fun zv i wr=>∃ (k:Nat) (z:Int),k≤f.devs.length∧i=.int .i64 k∧zv=.int .i64 z∧I64 z∧wa.grownBy wr none) (fun _ i _=>(f.devs.length-intOf i).toNat)
 case atStart=>exact ⟨0,f.nodes.length,by omega,rfl,rfl,⟨by omega,by omega⟩,Al _ _⟩
 case round =>
  obtain ⟨k,z,hk,rfl,rfl,hz,hg⟩:=hrel
  have p1:=Aj hg p1 (by simp)
  by_cases hlt:k<f.devs.length
  ·by_cases hz4:z<2000
   ·obtain ⟨b,o,An,cn,Av,cv,As,cs,Ag,cg,Am,cm,rfl,hat,hc⟩:=(HF.out.more hg).devs.at2 hlt
    generalize f.devs.getD k dev0=d at *
    obtain ⟨q0,q1,q2,q3,q4,q5,q6,q7,q8,q9,q10,q11,q12⟩:=hc
    have ga:=Af wr (.cells #[.int .u8 d.kind,.string d.name,.slice An d.nodes.length cn,.int .i64 d.ref,.int .i64 d.val.1,.int .i64 d.val.2,.int .i64 d.wkind,.slice Av d.wvals.length cv,.slice As d.wsteps.length cs,.string d.mname,.int .u8 d.mkind,.slice Ag d.mg.length cg,.slice Am d.mv.length cm] 89) none
    obtain ⟨m0,m1,m2,m3,m4,m5,m6,m7,m8,m9,m10,m11,m12⟩:=DevBox.of (Blk.new wr #[.int .u8 d.kind,.string d.name,.slice An d.nodes.length cn,.int .i64 d.ref,.int .i64 d.val.1,.int .i64 d.val.2,.int .i64 d.wkind,.slice Av d.wvals.length cv,.slice As d.wsteps.length cs,.string d.mname,.int .u8 d.mkind,.slice Ag d.mg.length cg,.slice Am d.mv.length cm] 89)
    have HGA:=Ac (Ae hg ga)
    have HLT:=Ac hlt
    clear hat hg ga hz
    go_wp2_with fail
    have hlt2:=HLT.out
    exact ⟨⟨k+1,_,hlt2,by go_num,rfl,A22 _,HGA.out⟩,by simp only [intOf];omega⟩
   ·as_aux_lemma =>
     go_wp2_with fail
     go_ret
     exact ⟨.inr rfl,Ae HGW.out hg⟩
  ·as_aux_lemma =>
    obtain rfl:k=f.devs.length:=by omega
    go_wp2_with fail
    go_ret
    first | exact ⟨decide (2000≤z),rfl,Ae HGW.out hg⟩ | exact ⟨decide ((2000:Int)≤z),by simp,Ae HGW.out hg⟩ | exact ⟨rfl,Ae HGW.out hg⟩
theorem N5 (w:World) (k:Int) (h0:0≤k) (h1:k≤255) :
  Calls Tryz.prog 74 #[.int .u8 k] w fun e w'=>e=.returned (.bool (isBr k))∧w'=w:=by
 obtain ⟨R,hR⟩:∃ R,isBr k=R:=⟨_,rfl⟩
 rw [hR]
 have HR:=Ac hR
 clear hR
 go_enter Tryz.func74,Tryz.ntmps74
 go_wp2_with fail
 all_goals
  have hR:=HR.out
  go_ret
  exact ⟨by rw [←hR];first | rfl | (simp [isBr];done) | (simp [isBr];omega),rfl⟩
set_option maxRecDepth 100000 in
theorem Qb (w:World) (f:Bf) (A1:Option Addr) (c1:Nat) (A2:Option Addr) (c2:Nat) (hf:FlatAt w f A1 c1 A2 c2) (hl1:f.nodes.length≤1099511627776) (hl2:f.devs.length≤1099511627776) :
  Calls Tryz.prog 29 #[.agg #[.slice A1 f.nodes.length c1,.slice A2 f.devs.length c2,.int .i64 f.step.1,.int .i64 f.step.2,.int .i64 f.method]] w fun e w'=>∃ v,e=.returned (.tuple #[.int .i64 (unk f),v])∧w.grownBy w' none:=by
 have gw:=Af w (.cells #[.slice A1 f.nodes.length c1,.slice A2 f.devs.length c2,.int .i64 f.step.1,.int .i64 f.step.2,.int .i64 f.method] 27) none
 obtain ⟨m0,m1,m2,m3,m4⟩:=FlatBox.of (Blk.new w #[.slice A1 f.nodes.length c1,.slice A2 f.devs.length c2,.int .i64 f.step.1,.int .i64 f.step.2,.int .i64 f.method] 27)
 have HF:=Ac (hf.more gw)
 have HU:Hid (unk f=(f.nodes.length:Int)-1+nbr f.devs f.devs.length):=Ac rfl
 clear hf
 go_enter Tryz.func29,Tryz.ntmps29
 go_wp2_with fail
 generalize w.alloc (.cells #[.slice A1 f.nodes.length c1,.slice A2 f.devs.length c2,.int .i64 f.step.1,.int .i64 f.step.2,.int .i64 f.method] 27)=wa at *
 generalize w.heap.size=s at *
 go_loopw [4,5,6] (fun n v i wr=>∃ k:Nat,k≤f.devs.length∧i=.int .i64 k∧n=.int .i64 ((f.nodes.length:Int)-1+(nbr f.devs k:Nat))∧Hid (∃ xs,wr.ownsRow wa.heap.size 3 1 v k xs)∧wa.grownBy wr none) (fun _ _ i _=>(f.devs.length-intOf i).toNat)
 case atStart=>exact ⟨0,by omega,rfl,by simp [nbr],Ac ⟨_,World.ownsRow_nil _ _ _ _⟩,Al _ _⟩
 case round =>
  obtain ⟨k,hk,rfl,rfl,hown,hg⟩:=hrel
  have hnb:=Up f.devs k
  have m1:=Aj hg m1 (by simp)
  by_cases hlt:k<f.devs.length
  ·obtain ⟨b,o,An,cn,Av,cv,As,cs,Ag,cg,Am,cm,rfl,hat,hc⟩:=(HF.out.more hg).devs.at2 hlt
   obtain ⟨xs,hown2⟩:=hown.out
   have hnsu:=Hx hlt
   generalize f.devs.getD k dev0=d at *
   obtain ⟨q0,q1,q2,q3,q4,q5,q6,q7,q8,q9,q10,q11,q12⟩:=hc
   have HBR:=Ac (fun W=>N5 W d.kind hat.kind.1 hat.kind.2)
   have hsb:=hg.size
   clear q1 q2 q3 q4 q5 q6 q7 q8 q9 q10 q11 q12 hat hown
   cases hb:isBr d.kind with
   | true =>
    rw [hb] at hnsu HBR
    rw [if_pos rfl] at hnsu
    have HI:=Ac hnsu
    clear hnsu hb
    go_wp2_with fail
    refine (HBR.out _).mono ?_
    rintro e w1 ⟨rfl,rfl⟩
    have hi:=HI.out
    go_wp2_with (first
     | (at_builtin;refine Fp wa.heap.size rfl (.tmp 25) (.tmp 27) 30 3 (.int .i64 0) 1 8 rfl Tryz.underlying30 Cm rfl (by omega) (by omega) u5 k xs #[.int .i64 ((f.nodes.length:Int)-1+(nbr f.devs k:Nat))] (by rfl) hown2 (by rfl) rfl (by simp [Value.oneCell']) (by omega) (by omega) ?_;intro v1 w1 hown1 hg1 hat1)
     | go_in)
    go_roundw
    case rel=>exact ⟨k+1,by omega,by go_num,Bl (by rw [HI.out];omega),Ac ⟨_,hown1⟩,Ep hg hg1 (D4 hown2)⟩
    case measure=>simp [intOf];omega
   | false =>
    rw [hb] at hnsu HBR
    rw [if_neg (by simp)] at hnsu
    have HI:=Ac hnsu
    clear hnsu hb
    go_wp2_with fail
    refine (HBR.out _).mono ?_
    rintro e w1 ⟨rfl,rfl⟩
    have hi:=HI.out
    go_wp2_with (first
     | (at_builtin;refine Fp wa.heap.size rfl (.tmp 31) (.tmp 32) 30 3 (.int .i64 0) 1 8 rfl Tryz.underlying30 Cm rfl (by omega) (by omega) u5 k xs #[.int .i64 (-1)] (by rfl) hown2 (by rfl) rfl (by simp [Value.oneCell']) (by omega) (by omega) ?_;intro v1 w1 hown1 hg1 hat1)
     | go_in)
    go_roundw
    case rel=>exact ⟨k+1,by omega,by go_num,Bl (by rw [HI.out];omega),Ac ⟨_,hown1⟩,Ep hg hg1 (D4 hown2)⟩
    case measure=>simp [intOf];omega
  ·obtain rfl:k=f.devs.length:=by omega
   go_wp2
   go_ret2
   exact ⟨_,rfl,Ae gw hg⟩
end
section
open Go.RowKit Go.Maps
def bs (l:List UInt8):ByteArray:=⟨l.toArray⟩
def J1:List DevP:=[⟨118,bs [118,49],[1,0],0,(0,0),1,[(5,0)],[],ByteArray.empty,0,[],[]⟩,⟨114,bs [114,49],[1,2],0,(1,3),0,[],[],ByteArray.empty,0,[],[]⟩,⟨114,bs [114,50],[2,0],0,(2,3),0,[],[],ByteArray.empty,0,[],[]⟩]
def Dv:Bf:=⟨[bs [48],bs [97],bs [98]],J1,(1,0),1⟩
instance (x:Int):Decidable (I64 x):=by unfold I64;infer_instance
instance (d:DevP):Decidable d.small:=by unfold DevP.small;infer_instance
theorem Vh {W:World} {b:Nat} {cs:List Value} (h:Blk W b cs.toArray) (hl:cs.length≤9223372036854775807):Row W (.slice (some ⟨b,0,none⟩) cs.length cs.length) cs:=by
 refine ⟨_,_,rfl,Nat.le_refl _,hl,.inr ⟨b,0,rfl,fun i hi=>?_⟩⟩
 rw [h.cell,Nat.zero_add]
 simp
theorem Ku {W:World} {b:Nat} {l:List Int} (h:Blk W b (ints l).toArray) (hl:l.length≤9223372036854775807) (hi:∀ x∈l,I64 x):IntRow W (.slice (some ⟨b,0,none⟩) l.length l.length) l:=by
 have e:(ints l).length=l.length:=by simp [ints]
 have:=Row.introw (Vh h (by rw [e];exact hl)) hi
 rw [e] at this
 exact this
theorem L8 (W:World):IntRow W (.slice none 0 0) []:=⟨none,0,rfl,Nat.le_refl _,by omega,by simp,fun h=>by simp at h⟩
theorem Fy (W:World):NumRow W (.slice none 0 0) []:=⟨none,0,rfl,Nat.le_refl _,by omega,by simp,fun h=>by simp at h⟩
def Lq (d:DevP) (vn vv:Value):List Value:=[.int .u8 d.kind,.string d.name,vn,.int .i64 d.ref,.int .i64 d.val.1,.int .i64 d.val.2,.int .i64 d.wkind,vv,.slice none 0 0,.string ByteArray.empty,.int .u8 0,.slice none 0 0,.slice none 0 0]
theorem A08 {W:World} {s2 s3 s4 s5 s6 s7:Nat} (h2:Blk W s2 (strs Dv.nodes).toArray) (h3:Blk W s3 (ints [1,0]).toArray) (h4:Blk W s4 #[.int .i64 5,.int .i64 0]) (h5:Blk W s5 (ints [1,2]).toArray) (h6:Blk W s6 (ints [2,0]).toArray)
  (h7:Blk W s7 (Lq (J1.getD 0 dev0) (.slice (some ⟨s3,0,none⟩) 2 2) (.slice (some ⟨s4,0,none⟩) 1 1)++Lq (J1.getD 1 dev0) (.slice (some ⟨s5,0,none⟩) 2 2) (.slice none 0 0)++Lq (J1.getD 2 dev0) (.slice (some ⟨s6,0,none⟩) 2 2) (.slice none 0 0)).toArray) :
  FlatAt W Dv (some ⟨s2,0,none⟩) 3 (some ⟨s7,0,none⟩) 3:=by
 have r3:=Ku h3 (by simp) (by simp [I64])
 have r5:=Ku h5 (by simp) (by simp [I64])
 have r6:=Ku h6 (by simp) (by simp [I64])
 have r4:NumRow W (.slice (some ⟨s4,0,none⟩) 1 1) [(5,0)]:=⟨_,_,rfl,Nat.le_refl _,by omega,by simp [I64],fun _=>⟨s4,0,rfl,fun i hi=>by
  have:i=0:=by simp at hi;omega
  subst this
  exact ⟨h4.cell 0,h4.cell 1⟩⟩⟩
 refine ⟨Vh h2 (by simp [strs,Dv]),?_,⟨_,_,rfl,Nat.le_refl _,by simp [Dv,J1],fun _=>⟨s7,0,rfl,fun i hi=>?_⟩⟩,by simp [Dv,I64],by simp [Dv,I64],by simp [Dv,I64],by simp [Dv],by simp [Dv,J1]⟩
 ·intro x hx
  simp [Dv] at hx
  rcases hx with rfl | rfl | rfl<;>decide
 ·have hi:i=0∨i=1∨i=2:=by simp [Dv,J1] at hi;omega
  rcases hi with rfl | rfl | rfl
  ·refine ⟨Lq (J1.getD 0 dev0) (.slice (some ⟨s3,0,none⟩) 2 2) (.slice (some ⟨s4,0,none⟩) 1 1),⟨by decide,by decide,by decide,by decide,by decide,by decide,by decide,by decide,_,_,_,_,_,rfl,r3,r4,L8 _,Fy _,Fy _⟩,fun j hj=>?_⟩
   rw [h7.cell]
   rcases j with _ | _ | _ | _ | _ | _ | _ | _ | _ | _ | _ | _ | _ | j<;>first | rfl | omega
  ·refine ⟨Lq (J1.getD 1 dev0) (.slice (some ⟨s5,0,none⟩) 2 2) (.slice none 0 0),⟨by decide,by decide,by decide,by decide,by decide,by decide,by decide,by decide,_,_,_,_,_,rfl,r5,Fy _,L8 _,Fy _,Fy _⟩,fun j hj=>?_⟩
   rw [h7.cell]
   rcases j with _ | _ | _ | _ | _ | _ | _ | _ | _ | _ | _ | _ | _ | j<;>first | rfl | omega
  ·refine ⟨Lq (J1.getD 2 dev0) (.slice (some ⟨s6,0,none⟩) 2 2) (.slice none 0 0),⟨by decide,by decide,by decide,by decide,by decide,by decide,by decide,by decide,_,_,_,_,_,rfl,r6,Fy _,L8 _,Fy _,Fy _⟩,fun j hj=>?_⟩
   rw [h7.cell]
   rcases j with _ | _ | _ | _ | _ | _ | _ | _ | _ | _ | _ | _ | _ | j<;>first | rfl | omega
theorem Wg {P:Program} {fn:Func} {R:Ending→World→Prop} {a:Act} (w:World) (c0 c1 c2 c3 c4 c5 c6 c7:Array Value) (T0 T1 T2 T3 T4 T5 T6 T7:TypeId)
  (h:∀ W,Blk W w.heap.size c0→Blk W (w.heap.size+1+1) c2→Blk W (w.heap.size+1+1+1) c3→Blk W (w.heap.size+1+1+1+1) c4→Blk W (w.heap.size+1+1+1+1+1) c5→Blk W (w.heap.size+1+1+1+1+1+1) c6→Blk W (w.heap.size+1+1+1+1+1+1+1) c7→w.grownBy W none→bodyPost P fn R .ret a W) :
  bodyPost P fn R .ret a ((((((((w.alloc (.cells c0 T0)).alloc (.cells c1 T1)).alloc (.cells c2 T2)).alloc (.cells c3 T3)).alloc (.cells c4 T4)).alloc (.cells c5 T5)).alloc (.cells c6 T6)).alloc (.cells c7 T7)):=by
 have b0:=Blk.new w c0 T0
 have b2:=Blk.new ((w.alloc (.cells c0 T0)).alloc (.cells c1 T1)) c2 T2
 have b3:=Blk.new (((w.alloc (.cells c0 T0)).alloc (.cells c1 T1)).alloc (.cells c2 T2)) c3 T3
 have b4:=Blk.new ((((w.alloc (.cells c0 T0)).alloc (.cells c1 T1)).alloc (.cells c2 T2)).alloc (.cells c3 T3)) c4 T4
 have b5:=Blk.new (((((w.alloc (.cells c0 T0)).alloc (.cells c1 T1)).alloc (.cells c2 T2)).alloc (.cells c3 T3)).alloc (.cells c4 T4)) c5 T5
 have b6:=Blk.new ((((((w.alloc (.cells c0 T0)).alloc (.cells c1 T1)).alloc (.cells c2 T2)).alloc (.cells c3 T3)).alloc (.cells c4 T4)).alloc (.cells c5 T5)) c6 T6
 have b7:=Blk.new (((((((w.alloc (.cells c0 T0)).alloc (.cells c1 T1)).alloc (.cells c2 T2)).alloc (.cells c3 T3)).alloc (.cells c4 T4)).alloc (.cells c5 T5)).alloc (.cells c6 T6)) c7 T7
 simp only [World.size_alloc] at b2 b3 b4 b5 b6 b7
 exact h _ (b0.more (by (focus ((repeat (first | assumption | exact Al _ _ | exact Ai _ _ | exact Af _ _ _ | refine Ae ?_ (Af _ _ _) | refine Ae ?_ (Ai _ _) | refine Ae ?_ (by assumption)));done)))) (b2.more (by (focus ((repeat (first | assumption | exact Al _ _ | exact Ai _ _ | exact Af _ _ _ | refine Ae ?_ (Af _ _ _) | refine Ae ?_ (Ai _ _) | refine Ae ?_ (by assumption)));done)))) (b3.more (by (focus ((repeat (first | assumption | exact Al _ _ | exact Ai _ _ | exact Af _ _ _ | refine Ae ?_ (Af _ _ _) | refine Ae ?_ (Ai _ _) | refine Ae ?_ (by assumption)));done)))) (b4.more (by (focus ((repeat (first | assumption | exact Al _ _ | exact Ai _ _ | exact Af _ _ _ | refine Ae ?_ (Af _ _ _) | refine Ae ?_ (Ai _ _) | refine Ae ?_ (by assumption)));done)))) (b5.more (by (focus ((repeat (first | assumption | exact Al _ _ | exact Ai _ _ | exact Af _ _ _ | refine Ae ?_ (Af _ _ _) | refine Ae ?_ (Ai _ _) | refine Ae ?_ (by assumption)));done)))) (b6.more (by (focus ((repeat (first | assumption | exact Al _ _ | exact Ai _ _ | exact Af _ _ _ | refine Ae ?_ (Af _ _ _) | refine Ae ?_ (Ai _ _) | refine Ae ?_ (by assumption)));done)))) b7 (by (focus ((repeat (first | assumption | exact Al _ _ | exact Ai _ _ | exact Af _ _ _ | refine Ae ?_ (Af _ _ _) | refine Ae ?_ (Ai _ _) | refine Ae ?_ (by assumption)));done)))
set_option maxRecDepth 100000 in
theorem Jv (w:World) :
  Calls Tryz.prog 39 #[] w fun e w'=>∃ A1 A2,e=.returned (.agg #[.slice A1 3 3,.slice A2 3 3,.int .i64 1,.int .i64 0,.int .i64 1])∧FlatAt w' Dv A1 3 A2 3∧w.grownBy w' none:=by
 go_enter Tryz.func39,Tryz.ntmps39
 go_wp2_with fail
 refine Wg w _ _ _ _ _ _ _ _ _ _ _ _ _ _ _ _ (fun W b0 b2 b3 b4 b5 b6 b7 hg=>?_)
 refine bodyPost_ret (v:=.agg #[.slice (some ⟨w.heap.size+1+1,0,none⟩) 3 3,.slice (some ⟨w.heap.size+1+1+1+1+1+1+1,0,none⟩) 3 3,.int .i64 1,.int .i64 0,.int .i64 1]) (by simp [results,Tryz.results39,go_sem,b0.cell]) rfl ⟨_,_,rfl,A08 b2 b3 b4 b5 b6 b7,hg⟩
end
section
open Go.RowKit Go.Maps
theorem Wf:Cq Dv=0:=by decide +kernel
theorem Wi:dcE (Dv.devs.getD 0 dev0).wvals 3=0:=by decide +kernel
theorem Wh:srcs Dv.devs 3 3=[5000000000,0,0]:=by decide +kernel
theorem A09:bldE Dv 1 0 (0,0) []=0:=by decide +kernel
def Hj:List RowP:=bldV Dv 1 0 (0,0) []
theorem S3:Hj.length=3:=by decide +kernel
theorem Yi:(Hj.getD 1 row0).mneg=false∧(Hj.getD 1 row0).mlimbs=[2000]:=by decide +kernel
theorem K7:(Hj.getD 1 row0).a.length=2∧((Hj.getD 1 row0).a.getD 0 Br).neg=true∧((Hj.getD 1 row0).a.getD 0 Br).limbs=[2]∧((Hj.getD 1 row0).a.getD 1 Br).col=1:=by decide +kernel
theorem Yj:rhsE Hj [0,0,0] [5000000000,0,0]=0:=by decide +kernel
theorem Lp:(rhsV Hj [0,0,0] [5000000000,0,0]).length=3∧(rhsV Hj [0,0,0] [5000000000,0,0]).getD 2 0=5000000000:=by decide +kernel
theorem Wj:sysE [row0]=130:=by decide +kernel
end
section
open Go.RowKit Go.Maps
set_option maxRecDepth 100000 in
theorem My (w:World) (A1 A2:Option Addr) (hf:FlatAt w Dv A1 3 A2 3) (hG:GlobOK w) :
  Calls Tryz.prog 13 #[.agg #[.slice A1 3 3,.slice A2 3 3,.int .i64 1,.int .i64 0,.int .i64 1],.agg #[.int .i64 1,.int .i64 0,.int .i64 0,.int .i64 0],.slice none 0 0] w fun e w'=>∃ A c,e=.returned (.tuple #[.agg #[.slice A 3 c],.int .i64 0])∧SysRow w' (.slice A 3 c) Hj∧w.grownBy w' none:=by
 have h:=Iu w Dv A1 3 A2 3 hf hG 1 0 (0,0) (by decide) (by decide) none 0 [] (L8 _)
 refine Calls.mono h ?_
 rintro e w' ⟨A,c,rfl,h1,h2⟩
 have e2:(bldV Dv 1 0 (0,0) []).length=3:=S3
 have h1':=h1.row
 rw [e2] at h1' ⊢
 rw [A09]
 exact ⟨A,c,rfl,h1',h2⟩
theorem Kw (w:World) (A1 A2:Option Addr) (hf:FlatAt w Dv A1 3 A2 3) (hG:GlobOK w) :
  Calls Tryz.prog 27 #[.agg #[.slice A1 3 3,.slice A2 3 3,.int .i64 1,.int .i64 0,.int .i64 1],.int .i64 3] w fun e w'=>∃ v,e=.returned (.tuple #[v,.int .i64 0])∧IntRow w' v [5000000000,0,0]∧w.grownBy w' none:=by
 have h:=Nd w Dv A1 3 A2 3 hf hG Wf 3 (fun k hk hs=>by
  have:k=0∨k=1∨k=2:=by simp [Dv,J1] at hk;omega
  rcases this with rfl | rfl | rfl
  ·exact ⟨by decide,by decide +kernel,Wi⟩
  ·exact absurd hs (by decide)
  ·exact absurd hs (by decide))
 refine Calls.mono h ?_
 rintro e w' ⟨v,rfl,h1,h2⟩
 have e2:srcs Dv.devs 3 Dv.devs.length=[5000000000,0,0]:=Wh
 rw [e2] at h1
 exact ⟨v,rfl,h1.introw (by simp [I64]),h2⟩
end
section
open Go.RowKit Go.Maps
open Rat
theorem Nums.at {w:World} {A:Option Addr} {n c:Nat} {xs:List Nat} (h:Nums w (.slice A n c) xs) {i:Nat} (hi:i<xs.length) :
  ∃ b o,A=some ⟨b,o,none⟩∧w.cell? ⟨b,o+i,none⟩=some (.int .u32 ((xs.getD i 0:Nat):Int)):=by
 obtain ⟨A',c',e,_,_,hA⟩:=h.read
 injection e with e1 e2 e3
 subst e1
 obtain ⟨b,o,rfl,hc⟩:=hA (by omega)
 exact ⟨b,o,rfl,by rw [hc i hi,List.getD_eq_getElem?_getD]⟩
theorem Hh (w:World) (neg:Bool) (v1 v2:Value) (xs:List Nat) (hx:Nums w v1 xs) (hy:Nums w v2 xs) :
  Calls Tryz.prog 65 #[.agg #[.bool neg,v1],.agg #[.bool neg,v2]] w fun e w'=>e=.returned (.bool true)∧w.grownBy w' none:=by
 obtain ⟨A1,c1,rfl,_⟩:=hx.form
 obtain ⟨A2,c2,rfl,hl,hl2⟩:=hy.form
 have gw:=Ae (Af w (.cells #[.bool neg,.slice A1 xs.length c1] 49) none) (Af _ (.cells #[.bool neg,.slice A2 xs.length c2] 49) none)
 have hB1:=(Blk.new w #[.bool neg,.slice A1 xs.length c1] 49).more (Af _ (.cells #[.bool neg,.slice A2 xs.length c2] 49) none)
 have hB2:=Blk.new (w.alloc (.cells #[.bool neg,.slice A1 xs.length c1] 49)) #[.bool neg,.slice A2 xs.length c2] 49
 rw [World.size_alloc] at hB2
 have HX:=Ac (hx.more gw)
 have HY:=Ac (hy.more gw)
 obtain ⟨x0,x1,_⟩:=hB1.two
 obtain ⟨y0,y1,_⟩:=hB2.two
 have HGW:=Ac gw
 have t0:(neg != neg)=false:=by simp
 have t1:((xs.length:Int) != (xs.length:Int))=false:=by simp
 clear hx hy hB1 hB2 gw
 go_enter Tryz.func65,Tryz.ntmps65
 go_wp2_with fail
 generalize (w.alloc (.cells #[.bool neg,.slice A1 xs.length c1] 49)).alloc (.cells #[.bool neg,.slice A2 xs.length c2] 49)=wa at *
 generalize hs:w.heap.size=s at *
 clear hs
 go_loopw [5] (fun iv wr=>∃ k:Nat,k≤xs.length∧iv=.int .i64 k∧wa.grownBy wr none) (fun iv _=>(xs.length-intOf iv).toNat)
 case atStart=>exact ⟨0,by omega,rfl,Al _ _⟩
 case round =>
  obtain ⟨k,hk,rfl,hg⟩:=hrel
  have x0:=Aj hg x0 (by simp)
  have x1:=Aj hg x1 (by simp)
  have y0:=Aj hg y0 (by simp)
  have y1:=Aj hg y1 (by simp)
  by_cases hlt:k<xs.length
  ·obtain ⟨b1,o1,rfl,u1⟩:=(HX.out.more hg).at hlt
   obtain ⟨b2,o2,rfl,u2⟩:=(HY.out.more hg).at hlt
   generalize xs.getD k 0=x at *
   have t2:((x:Int) != (x:Int))=false:=by simp
   have HG:=Ac hg
   clear hg
   go_wp2_with fail
   go_quiet (fail)
   go_wp2_with fail
   exact ⟨⟨k+1,by omega,by go_num,Ae HG.out (Az _ _ _)⟩,by simp [intOf];omega⟩
  ·obtain rfl:k=xs.length:=by omega
   go_wp2_with fail
   go_ret
   exact ⟨rfl,Ae HGW.out hg⟩
theorem ZRow.at {w:World} {A:Option Addr} {n c:Nat} {L:List Int} (h:ZRow w (.slice A n c) L) {i:Nat} (hi:i<L.length) :
  ∃ b A' n' c',A=some ⟨b,0,none⟩∧w.cell? ⟨b,i*2,none⟩=some (.bool (decide (L.getD i 0<0)))∧w.cell? ⟨b,i*2+1,none⟩=some (.slice A' n' c')∧Nums w (.slice A' n' c') (digs (L.getD i 0)):=by
 obtain ⟨A0,c0,he,h4⟩:=h
 injection he with e1 e2 e3
 subst e1
 obtain ⟨b,rfl,hc⟩:=h4 (by omega)
 obtain ⟨A',n',c',u0,u1,hn⟩:=hc i hi
 have e:L.getD i 0=L[i]:=by rw [List.getD_eq_getElem?_getD,List.getElem?_eq_getElem hi];rfl
 exact ⟨b,A',n',c',rfl,by rw [e];exact u0,u1,by rw [e];exact hn⟩
theorem ZRow.more {w w':World} {v:Value} {L:List Int} (h:ZRow w v L) (hg:w.grownBy w' none):ZRow w' v L:=by
 obtain ⟨A0,c0,rfl,h4⟩:=h
 refine ⟨A0,c0,rfl,fun hp=>?_⟩
 obtain ⟨b,rfl,hc⟩:=h4 hp
 refine ⟨b,rfl,fun i hi=>?_⟩
 obtain ⟨A',n',c',u0,u1,hn⟩:=hc i hi
 exact ⟨A',n',c',Aj hg u0 (by simp),Aj hg u1 (by simp),hn.more hg⟩
end
section
open Go.RowKit Go.Maps
set_option maxRecDepth 100000 in
theorem Kg (w:World) (neg:Bool) (v1 v2:Value) (xs:List Nat) (hx:Nums w v1 xs) (hy:Nums w v2 xs) :
  Calls Tryz.prog 31 #[.agg #[.bool neg,v1],.agg #[.bool neg,v2]] w fun e w'=>e=.returned (.bool true)∧w.grownBy w' none:=by
 obtain ⟨A1,c1,rfl,_⟩:=hx.form
 obtain ⟨A2,c2,rfl,hl,hl2⟩:=hy.form
 have g1:=Af w (.cells #[.bool neg,.slice A1 xs.length c1] 49) none
 have g2:=Af (w.alloc (.cells #[.bool neg,.slice A1 xs.length c1] 49)) (.cells #[.bool neg,.slice A2 xs.length c2] 49) none
 have gw:=Ae g1 g2
 have HGW:=Ac gw
 have HC:=Ac (Hh ((w.alloc (.cells #[.bool neg,.slice A1 xs.length c1] 49)).alloc (.cells #[.bool neg,.slice A2 xs.length c2] 49)) neg _ _ xs (hx.more gw) (hy.more gw))
 clear hx hy g1 g2 gw
 go_enter Tryz.func31,Tryz.ntmps31
 go_wp2_with fail
 refine HC.out.mono ?_
 rintro e w1 ⟨rfl,hg⟩
 go_wp2_with fail
 go_ret
 exact ⟨rfl,Ae HGW.out hg⟩
end
section
open Go Go.RowKit
section
variable {P:Program} {md:Region.Mode} {ops:Array Oper} {Q:Exit→Act→World→Prop} {S:World→Prop} {z:Nat}
def wpT (P:Program) (md:Region.Mode) (ops:Array Oper) (Q:Exit→Act→World→Prop) (S:World→Prop) (z:Nat) (n:Nat) (l:Array Bool) (a:Act) (w:World):Prop :=
 match n with
 | 0=>Region.ready md ops l=[]∧Q .normal a w
 | n+1=>(Region.ready md ops l=[]→Q .normal a w)∧
  ∀ i∈Region.ready md ops l,wpOp P ops Q i (fun a' w'=>(i≠z→S w')∧wpT P md ops Q S z n (l.setIfInBounds i true) a' w') a w
theorem wpT.any:∀ {n:Nat} {l:Array Bool} {a:Act} {w:World},wpT P md ops Q S z n l a w→wpAny P md ops Q n l a w
 | 0,_,_,_,h=>h
 | _+1,_,_,_,h=>⟨h.1,fun i hi=>wpOp_mono (fun _ _ k=>k.2.any) (h.2 i hi)⟩
theorem O4 {l:Array Bool} {i:Nat} (h:l.getD i true=false):l.getD i false=false:=by
 by_cases hi:i<l.size
 ·simp [hi] at h ⊢;exact h
 ·simp [Array.getElem?_eq_none (Nat.le_of_not_lt hi)] at h
theorem Sp {i:Nat} {oi:Oper} {rest:List Oper} (h:ops.toList.drop i=oi::rest):ops[i]? = some oi:=by
 rw [←Array.getElem?_toList,←Nat.add_zero i,←List.getElem?_drop,h];rfl
end
end
section
open Go.RowKit Go.Maps
theorem dm2:digs (-2)=[2]:=by decide +kernel
theorem Zu (W:World) (T:TypeId):SysRow (W.alloc (.cells #[.bool false,.slice none 0 0,.slice none 0 0,.slice none 0 0,.slice none 0 0,.bool false,.slice none 0 0] T)) (.slice (some ⟨W.heap.size,0,none⟩) 1 1) [row0]:=by
 have hb:=Blk.new W #[.bool false,.slice none 0 0,.slice none 0 0,.slice none 0 0,.slice none 0 0,.bool false,.slice none 0 0] T
 have hc:∀ w,CellRow w (.slice none 0 0) []:=fun w=>⟨none,0,rfl,by simp,by omega,fun h=>by simp at h⟩
 refine ⟨_,_,rfl,by simp,by simp,fun _=>⟨W.heap.size,0,rfl,fun i hi=>?_⟩⟩
 obtain rfl:i=0:=by simp at hi;omega
 refine ⟨_,⟨.slice none 0 0,.slice none 0 0,.slice none 0 0,.slice none 0 0,.slice none 0 0,rfl,Nums.nil _,hc _,hc _,hc _,Nums.nil _⟩,fun j hj=>?_⟩
 rw [show 0+0*7+j=j by omega,hb.cell]
 rcases j with _ | _ | _ | _ | _ | _ | _ | j<;>first | rfl | omega
set_option maxRecDepth 100000 in
theorem Rw (w:World) (hG:GlobOK w) :
  Calls Tryz.prog 10 #[] w fun e w'=>e=.returned (.bool true)∧w.grownBy w' none:=by
 have HG:=Ac hG
 clear hG
 go_enter Tryz.func10,Tryz.ntmps10
 go_wp2_with fail
 refine (Jv w).mono ?_
 rintro e w1 ⟨A1,A2,rfl,hf,hg1⟩
 have HC:=Ac (My w1 A1 A2 hf (HG.out.more hg1))
 have HG1:=Ac hg1
 clear hf hg1
 go_wp2_with fail
 refine HC.out.mono ?_
 rintro e w2 ⟨A,c,rfl,hs,hg2⟩
 have HS:=Ac hs
 have HG2:=Ac (Ae HG1.out hg2)
 clear hs hg2 HC
 have ga:=Af w2 (.cells #[.slice A 3 c] 38) none
 have hB:=Blk.new w2 #[.slice A 3 c] 38
 have HB:=Ac hB
 have HS:=Ac (HS.out.more ga)
 have HG3:=Ac (Ae HG2.out ga)
 clear ga hB
 go_wp2_with fail
 generalize w2.alloc (.cells #[.slice A 3 c] 38)=w3 at HB HS HG3 ⊢
 generalize w2.heap.size=sb at HB ⊢
 refine (Jv w3).mono ?_
 rintro e w4 ⟨B1,B2,rfl,hf,hg4⟩
 have HG4:=Ac (Ae HG3.out hg4)
 have HC:=Ac (Kw w4 B1 B2 hf (HG.out.more HG4.out))
 have HB4:=Ac (HB.out.more hg4)
 have HS4:=Ac (HS.out.more hg4)
 clear hf hg4 HB HS
 go_wp2_with fail
 refine HC.out.mono ?_
 rintro e w5 ⟨v5,rfl,hv5,hg5⟩
 obtain ⟨A5,c5,rfl,_⟩:=id hv5.ctor
 have HV5:=Ac hv5
 have HB5:=Ac (HB4.out.more hg5)
 have HS5:=Ac (HS4.out.more hg5)
 have HG5:=Ac (Ae HG4.out hg5)
 have c0:=HB5.out.cell 0
 clear hv5 hg5 HB4 HS4 HC
 have ga:=Af w5 (.cells #[.int .i64 0,.int .i64 0,.int .i64 0] 2) none
 have hp:IntRow (w5.alloc (.cells #[.int .i64 0,.int .i64 0,.int .i64 0] 2)) (.slice (some ⟨w5.heap.size,0,none⟩) 3 3) [0,0,0]:=Ku (l:=[0,0,0]) (Blk.new w5 #[.int .i64 0,.int .i64 0,.int .i64 0] 2) (by simp) (by simp [I64])
 have hc:=W9 (w5.alloc (.cells #[.int .i64 0,.int .i64 0,.int .i64 0] 2)) (.slice A 3 c) _ (.slice A5 3 c5) Hj [0,0,0] [5000000000,0,0] (HS5.out.more ga) hp (HV5.out.more ga)
 rw [Yj,Lp.1] at hc
 have HC:=Ac hc
 have HB6:=Ac (HB5.out.more ga)
 have HS6:=Ac (HS5.out.more ga)
 have HG6:=Ac (Ae HG5.out ga)
 clear hc hp ga HB5 HS5
 go_wp2_with fail
 refine HC.out.mono ?_
 rintro e w7 ⟨A7,c7,rfl,hz,hg7⟩
 have HZ:=Ac hz
 have HB7:=Ac (HB6.out.more hg7)
 have HS7:=Ac (HS6.out.more hg7)
 have HG7:=Ac (Ae HG6.out hg7)
 have c0:=HB7.out.cell 0
 clear hz hg7 HB6 HS6 HC
 have hlen:(3:Nat)=Hj.length:=S3.symm
 obtain ⟨b,o,Am,nm,cm,Aa,ca,Ah,ch,As,cs,Ak,nk,ck,rfl,q0,q1,q2,q3,q4,q5,q6,rm,ra,rh,rs,rk⟩:=HS7.out.at (i:=1) (by rw [←hlen];omega)
 rw [K7.1] at q2
 have QS:=Ac (And.intro q0 (And.intro q1 q2))
 have RM:=Ac rm
 have RA:=Ac ra
 clear q0 q1 q3 q4 q5 q6 rm ra rh rs rk hlen
 simp only [Nat.one_mul] at q2
 go_upto_region 6 with (fail)
 have RA2:CellRow w7 (.slice Aa 2 ca) (Hj.getD 1 row0).a:=by have:=RA.out;rwa [K7.1] at this
 obtain ⟨b3,o3,A3,n3,k3,hA3,_,x0,x1,x2,xn⟩:=RA2.at (i:=0) (by rw [K7.1];omega)
 obtain ⟨b4,o4,A4,n4,k4,hA4,_,y0,y1,y2,yn⟩:=RA2.at (i:=1) (by rw [K7.1];omega)
 obtain ⟨b6,A6,n6,k6,hA6,z0,z1,zn⟩:=HZ.out.at (i:=2) (by rw [Lp.1];omega)
 subst hA3
 injection hA4 with hA4
 injection hA4 with e1 e2
 subst e1 e2
 subst hA6
 obtain ⟨q0,q1,q2⟩:=QS.out
 rw [Yi.1] at q0
 rw [K7.2.1] at x1
 rw [K7.2.2.2] at y0
 simp only [Nat.zero_mul,Nat.one_mul,Nat.add_zero,Nat.reduceMul,Nat.reduceAdd] at q0 q1 q2 x0 x1 x2 y0 y1 y2 z0 z1
 rw [Lp.2] at z0 zn
 rw [K7.2.2.1] at xn
 have rm:=RM.out
 rw [Yi.2] at rm
 simp at z0
 have HK:∀ W,w7.grownBy W none→W.cell? ⟨sb,0,none⟩=some (.slice (some ⟨b,o,none⟩) 3 c)∧W.cell? ⟨b,o+7,none⟩=some (.bool false)∧W.cell? ⟨b,o+7+1,none⟩=some (.slice Am nm cm)∧W.cell? ⟨b,o+7+2,none⟩=some (.slice (some ⟨b3,o3,none⟩) 2 ca)∧W.cell? ⟨b3,o3+1,none⟩=some (.bool true)∧W.cell? ⟨b3,o3+2,none⟩=some (.slice A3 n3 k3)∧W.cell? ⟨b3,o3+3,none⟩=some (.int .i64 1)∧W.cell? ⟨b6,4,none⟩=some (.bool false)∧W.cell? ⟨b6,5,none⟩=some (.slice A6 n6 k6):=fun W h=>⟨Aj h c0 (by simp),Aj h q0 (by simp),Aj h q1 (by simp),Aj h q2 (by simp),Aj h x1 (by simp),Aj h x2 (by simp),Aj h y0 (by simp),Aj h z0 (by simp),Aj h z1 (by simp)⟩
 have HKK:=Ac HK
 have RMH:=Ac rm
 have XNH:=Ac xn
 have ZNH:=Ac zn
 clear HK rm xn yn zn HZ HB7 HS7 RM RA RA2 QS
 go_region_held3 (fun W=>W.cell? ⟨sb,0,none⟩=some (.slice (some ⟨b,o,none⟩) 3 c)∧W.cell? ⟨b,o+7,none⟩=some (.bool false)∧W.cell? ⟨b,o+7+1,none⟩=some (.slice Am nm cm)∧W.cell? ⟨b,o+7+2,none⟩=some (.slice (some ⟨b3,o3,none⟩) 2 ca)∧W.cell? ⟨b3,o3+1,none⟩=some (.bool true)∧W.cell? ⟨b3,o3+2,none⟩=some (.slice A3 n3 k3)∧W.cell? ⟨b3,o3+3,none⟩=some (.int .i64 1)∧W.cell? ⟨b6,4,none⟩=some (.bool false)∧W.cell? ⟨b6,5,none⟩=some (.slice A6 n6 k6)) ((refine HKK.out _ ?_;(focus ((repeat (first | assumption | exact Al _ _ | exact Ai _ _ | exact Af _ _ _ | refine Ae ?_ (Af _ _ _) | refine Ae ?_ (Ai _ _) | refine Ae ?_ (by assumption)));done))))
  (first
  | (go_at_call_of 32 (Value.int .i64 2000);refine (Lo _ 2000 (by omega) (by omega)).mono ?_;rintro e w8 ⟨s1,rfl,hn1,hf1,hg8⟩;rw [show digs 2000=[2000] by decide +kernel] at hn1)
  | (go_at_call_of 31 (Value.agg #[.bool false,.slice Am nm cm]);refine (Kg _ false _ _ [2000] (RMH.out.more (by (focus ((repeat (first | assumption | exact Al _ _ | exact Ai _ _ | exact Af _ _ _ | refine Ae ?_ (Af _ _ _) | refine Ae ?_ (Ai _ _) | refine Ae ?_ (by assumption)));done)))) hn1).mono ?_;rintro e w9 ⟨rfl,hg9⟩)
  | (go_at_call_of 32 (Value.int .i64 5000000000);refine (Lo _ 5000000000 (by omega) (by omega)).mono ?_;rintro e w12 ⟨s3,rfl,hn3,hf3,hg12⟩)
  | (go_at_call 32;refine (Lo _ (-2) (by decide) (by decide)).mono ?_;rintro e w10 ⟨s2,rfl,hn2,hf2,hg10⟩;rw [dm2] at hn2)
  | (go_at_call_of 31 (Value.agg #[.bool true,.slice A3 n3 k3]);refine (Kg _ true _ _ [2] (XNH.out.more (by (focus ((repeat (first | assumption | exact Al _ _ | exact Ai _ _ | exact Af _ _ _ | refine Ae ?_ (Af _ _ _) | refine Ae ?_ (Ai _ _) | refine Ae ?_ (by assumption)));done)))) hn2).mono ?_;rintro e w11 ⟨rfl,hg11⟩)
  | (go_at_call_of 31 (Value.agg #[.bool false,.slice A6 n6 k6]);refine (Kg _ false _ _ (digs 5000000000) (ZNH.out.more (by (focus ((repeat (first | assumption | exact Al _ _ | exact Ai _ _ | exact Af _ _ _ | refine Ae ?_ (Af _ _ _) | refine Ae ?_ (Ai _ _) | refine Ae ?_ (by assumption)));done)))) hn3).mono ?_;rintro e w13 ⟨rfl,hg13⟩)
  | (go_at_call 24;refine (Ix _ _ [row0] (Zu _ _)).mono ?_;rintro e w14 ⟨rfl,hg14⟩;rw [Wj])
  | (fail))
 all_goals
  go_wp2_with fail
  go_ret
  exact ⟨rfl,Ae HG7.out (by (focus ((repeat (first | assumption | exact Al _ _ | exact Ai _ _ | exact Af _ _ _ | refine Ae ?_ (Af _ _ _) | refine Ae ?_ (Ai _ _) | refine Ae ?_ (by assumption)));done)))⟩
end
end Go.Proofs.YtmfmfpmkgmkgiaaGreatDoor
