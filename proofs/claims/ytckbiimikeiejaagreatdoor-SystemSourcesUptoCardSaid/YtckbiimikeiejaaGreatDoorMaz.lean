/- SysC StF SumA SumB. -/
import Derived.Test.YtckbiimikeiejaaGreatDoorMax
import Derived.Test.YtckbiimikeiejaaGreatDoorMay
import Derived.Maps.OwnSet
import Derived.Maps.RangeWalk
set_option linter.unusedVariables false
set_option linter.unusedSimpArgs false
set_option maxHeartbeats 40000000
namespace Go.Proofs.YtckbiimikeiejaaGreatDoor
section
open Go.RowKit Go.Maps
def Bp (k:Int):Bool:=decide (k=100)||decide (k=115)
def Cp (ds:List DevP) (t:Nat):List Int:=((List.range t).filter fun i=>Bp (ds.getD i dev0).kind).map fun (i:Nat)=>(i:Int)
theorem Eu (ds:List DevP) (t:Nat):Cp ds (t+1)=Cp ds t++(if Bp (ds.getD t dev0).kind then [(t:Int)] else []):=by
 unfold Cp
 rw [List.range_succ,List.filter_append,List.map_append]
 by_cases h:Bp (ds.getD t dev0).kind=true
 ·rw [if_pos h,List.filter_cons_of_pos (by exact h)];rfl
 ·rw [if_neg h,List.filter_cons_of_neg (by exact h)];rfl
theorem Du (ds:List DevP) (t:Nat):(Cp ds t).length≤t:=by
 unfold Cp
 rw [List.length_map]
 exact Nat.le_trans (List.length_filter_le _ _) (by simp)
set_option maxRecDepth 100000 in
theorem N4 (w:World) (f:Bf) (A1:Option Addr) (c1:Nat) (A2:Option Addr) (c2:Nat) (hf:FlatAt w f A1 c1 A2 c2) :
  Calls Tryz.prog 20 #[.agg #[.slice A1 f.nodes.length c1,.slice A2 f.devs.length c2,.int .i64 f.step.1,.int .i64 f.step.2,.int .i64 f.method]] w fun e w'=>∃ v,e=.returned v∧Row w' v (ints (Cp f.devs f.devs.length))∧From w.heap.size v∧w.grownBy w' none:=by
 have gw:=Af w (.cells #[.slice A1 f.nodes.length c1,.slice A2 f.devs.length c2,.int .i64 f.step.1,.int .i64 f.step.2,.int .i64 f.method] 27) none
 have hB:=FlatBox.of (Blk.new w #[.slice A1 f.nodes.length c1,.slice A2 f.devs.length c2,.int .i64 f.step.1,.int .i64 f.step.2,.int .i64 f.method] 27)
 have HF:=Ac hf
 have hsz:=gw.size
 have hn2:=hf.n2
 obtain ⟨p0,p1,p2,p3,p4⟩:=hB
 clear hf
 go_enter Tryz.func20,Tryz.ntmps20
 go_wp2_with fail
 generalize w.alloc (.cells #[.slice A1 f.nodes.length c1,.slice A2 f.devs.length c2,.int .i64 f.step.1,.int .i64 f.step.2,.int .i64 f.method] 27)=wa at *
 generalize hs:w.heap.size=s at *
 go_loopw [3,9] (fun v i wr=>∃ k:Nat,k≤f.devs.length∧i=.int .i64 k∧wr.ownsRow wa.heap.size 3 1 v (Cp f.devs k).length (ints (Cp f.devs k))∧wa.grownBy wr none) (fun _ i _=>(f.devs.length-intOf i).toNat)
 case atStart=>exact ⟨0,by omega,rfl,World.ownsRow_nil _ _ _ _,Al _ _⟩
 case round =>
  obtain ⟨k,hk,rfl,hown,hg⟩:=hrel
  have hbl:=Du f.devs k
  by_cases hlt:k<f.devs.length
  ·obtain ⟨b,o,An,cn,Av,cv,As,cs,Ag,cg,Am,cm,rfl,hat,hc⟩:=(HF.out.more (Ae gw hg)).devs.at2 hlt
   have hbs:=Eu f.devs k
   generalize f.devs.getD k dev0=d at *
   obtain ⟨q0,q1,q2,q3,q4,q5,q6,q7,q8,q9,q10,q11,q12⟩:=hc
   have ga:=Af wr (.cells #[.int .u8 d.kind,.string d.name,.slice An d.nodes.length cn,.int .i64 d.ref,.int .i64 d.val.1,.int .i64 d.val.2,.int .i64 d.wkind,.slice Av d.wvals.length cv,.slice As d.wsteps.length cs,.string d.mname,.int .u8 d.mkind,.slice Ag d.mg.length cg,.slice Am d.mv.length cm] 89) none
   obtain ⟨r0,-,-,-,-,-,-,-,-,-,-,-,-⟩:=DevBox.of (Blk.new wr #[.int .u8 d.kind,.string d.name,.slice An d.nodes.length cn,.int .i64 d.ref,.int .i64 d.val.1,.int .i64 d.val.2,.int .i64 d.wkind,.slice Av d.wvals.length cv,.slice As d.wsteps.length cs,.string d.mname,.int .u8 d.mkind,.slice Ag d.mg.length cg,.slice Am d.mv.length cm] 89)
   have hown2:=hown.alloc (.cells #[.int .u8 d.kind,.string d.name,.slice An d.nodes.length cn,.int .i64 d.ref,.int .i64 d.val.1,.int .i64 d.val.2,.int .i64 d.wkind,.slice Av d.wvals.length cv,.slice As d.wsteps.length cs,.string d.mname,.int .u8 d.mkind,.slice Ag d.mg.length cg,.slice Am d.mv.length cm] 89)
   have hsb:=(Ae hg ga).size
   by_cases hb:d.kind=100∨d.kind=115
   ·have hbb:Bp d.kind=true:=by unfold Bp;rcases hb with h | h<;>simp [h]
    rw [if_pos hbb] at hbs
    have HBS:=Ac hbs
    have hkk:(d.kind==100)=true∨((d.kind==100)=false∧(d.kind==115)=true):=by
     simp only [beq_iff_eq,beq_eq_false_iff_ne];omega
    clear hbs hb hbb hat
    rcases hkk with t100 | ⟨t100,t115⟩
    all_goals
     go_upto_region 6 with (fail)
     generalize wr.alloc (.cells #[.int .u8 d.kind,.string d.name,.slice An d.nodes.length cn,.int .i64 d.ref,.int .i64 d.val.1,.int .i64 d.val.2,.int .i64 d.wkind,.slice Av d.wvals.length cv,.slice As d.wsteps.length cs,.string d.mname,.int .u8 d.mkind,.slice Ag d.mg.length cg,.slice Am d.mv.length cm] 89)=wb at *
     go_wp2_with (first
      | (at_builtin;refine Fp wa.heap.size rfl (.tmp 22) (.tmp 24) 30 3 (.int .i64 0) 1 8 rfl Tryz.underlying30 Cm rfl (by omega) (by omega) u3 (Cp f.devs k).length (ints (Cp f.devs k)) #[.int .i64 (k:Int)] (by rfl) hown2 (by rfl) rfl (by simp [Value.oneCell']) (by omega) (by omega) ?_;intro v1 w1 hown1 hg1 hat1)
      | go_in)
     go_roundw
     case rel=>exact ⟨k+1,by omega,by go_num,by rw [HBS.out,F4,List.length_append];exact hown1,Ep (Ae hg ga) hg1 (D4 hown2)⟩
     case measure=>simp [intOf];omega
   ·have hbb:Bp d.kind=false:=by unfold Bp;simp;omega
    rw [if_neg (by rw [hbb];simp),List.append_nil] at hbs
    have HBS:=Ac hbs
    have t100:(d.kind==100)=false:=by rw [beq_eq_false_iff_ne];omega
    have t115:(d.kind==115)=false:=by rw [beq_eq_false_iff_ne];omega
    clear hbs hb hbb hat
    go_wp2_with fail
    go_roundw
    case rel=>exact ⟨k+1,by omega,by go_num,by rw [HBS.out];exact hown2,Ae hg ga⟩
    case measure=>simp [intOf];omega
  ·obtain rfl:k=f.devs.length:=by omega
   have hr:=E5 hown
   have hfr:=D4 hown
   have HR:=Ac hr
   clear hr
   go_wp2_with fail
   go_ret
   exact ⟨_,rfl,HR.out,hfr.mono (by omega),Ae gw hg⟩
def setB (mode method:Int) (step:Int × Int):Bool :=
 decide (mode=1)||(decide (mode=2)&&(decide (method=1)||decide (method=2))&&Bu step&&decide (0<step.1))
set_option maxRecDepth 100000 in
theorem G7 (w:World) (mode method:Int) (step:Int × Int) (i1:I64 step.1) (i2:I64 step.2) :
  Calls Tryz.prog 54 #[.agg #[.int .i64 mode,.int .i64 method,.int .i64 step.1,.int .i64 step.2]] w fun e w'=>e=.returned (.int .i64 (if setB mode method step then 0 else 110))∧w.grownBy w' none:=by
 have gw:=Af w (.cells #[.int .i64 mode,.int .i64 method,.int .i64 step.1,.int .i64 step.2] 29) none
 have hB:=Blk.new w #[.int .i64 mode,.int .i64 method,.int .i64 step.1,.int .i64 step.2] 29
 obtain ⟨p0,p1,p2,p3,_⟩:=hB.four
 obtain ⟨R,hR⟩:∃ R:Int,(if setB mode method step then (0:Int) else 110)=R:=⟨_,rfl⟩
 rw [hR]
 by_cases h1:mode=1
 ·have HR:Hid (R=0):=Ac (by rw [←hR];simp [setB,h1])
  have t1:(mode==1)=true:=by rw [beq_iff_eq];exact h1
  clear hR h1 hB
  go_enter Tryz.func54,Tryz.ntmps54
  go_wp2_with fail
  go_ret
  exact ⟨B9 HR.out.symm,gw⟩
 have t1:(mode==1)=false:=by rw [beq_eq_false_iff_ne];exact h1
 by_cases h2:mode=2
 ·have t2:(mode==2)=true:=by rw [beq_iff_eq];exact h2
  have t2':(mode != 2)=false:=by rw [bne_eq_false_iff_eq];exact h2
  have HR1:Hid (R=if (decide (method=1)||decide (method=2))&&Bu step&&decide (0<step.1) then 0 else 110):=Ac (by rw [←hR];simp [setB,h2])
  by_cases h3:method=1∨method=2
  ·have hmm:((method != 1)=false)∨((method != 1)=true∧(method != 2)=false):=by
    rw [bne_eq_false_iff_eq,bne_iff_ne,bne_eq_false_iff_eq];omega
   have HR2:Hid (R=if Bu step&&decide (0<step.1) then 0 else 110):=Ac (by
    rw [HR1.out]
    rw [show (decide (method=1)||decide (method=2))=true by rcases h3 with h | h<;>simp [h]]
    simp only [Bool.true_and])
   have hN:=Bd (w.alloc (.cells #[.int .i64 mode,.int .i64 method,.int .i64 step.1,.int .i64 step.2] 29)) step.1 step.2 i1.1 i1.2 i2.1 i2.2
   obtain ⟨N,hNN⟩:∃ N,decide (NumOK step.1 step.2)=N:=⟨_,rfl⟩
   rw [hNN] at hN
   have HN:Hid (Bu step=N):=Ac hNN
   have HC:=Ac hN
   have HB:=Ac hB
   clear hR h1 h2 h3 hN hNN hB HR1
   rcases hmm with hmm | ⟨hmm,hmm2⟩
   all_goals
    go_enter Tryz.func54,Tryz.ntmps54
    go_wp2_with fail
    refine HC.out.mono ?_
    rintro e w1 ⟨rfl,hg1⟩
    obtain ⟨q0,q1,q2,q3,_⟩:=(HB.out.more hg1).four
    cases N with
    | false =>
     go_wp2_with fail
     go_ret
     exact ⟨B9 (by rw [HR2.out,HN.out];rfl),Ae gw hg1⟩
    | true =>
     by_cases h5:step.1≤0
     ·go_wp2_with fail
      go_ret
      exact ⟨B9 (by rw [HR2.out,if_neg (by simp;omega)]),Ae gw hg1⟩
     ·go_wp2_with fail
      go_ret
      exact ⟨B9 (by rw [HR2.out,HN.out,if_pos (by simp;omega)]),Ae gw hg1⟩
  ·have m1:(method != 1)=true:=by rw [bne_iff_ne];omega
   have m2:(method != 2)=true:=by rw [bne_iff_ne];omega
   have HR2:Hid (R=110):=Ac (by rw [HR1.out,if_neg (by simp;omega)])
   clear hR h1 h2 h3 hB HR1
   go_enter Tryz.func54,Tryz.ntmps54
   go_wp2_with fail
   go_ret
   exact ⟨B9 HR2.out.symm,gw⟩
 ·have t2:(mode==2)=false:=by rw [beq_eq_false_iff_ne];exact h2
  have t2':(mode != 2)=true:=by rw [bne_iff_ne];exact h2
  have HR2:Hid (R=110):=Ac (by rw [←hR,if_neg (by simp [setB,h1,h2])])
  clear hR h1 h2 hB
  go_enter Tryz.func54,Tryz.ntmps54
  go_wp2_with fail
  go_ret
  exact ⟨B9 HR2.out.symm,gw⟩
set_option maxRecDepth 100000 in
theorem Iy (w:World) (f:Bf) (A1:Option Addr) (c1:Nat) (A2:Option Addr) (c2:Nat) (hf:FlatAt w f A1 c1 A2 c2) (hG:GlobOK w) (h0:Cq f=0) :
  Calls Tryz.prog 56 #[.agg #[.slice A1 f.nodes.length c1,.slice A2 f.devs.length c2,.int .i64 f.step.1,.int .i64 f.step.2,.int .i64 f.method]] w fun e w'=>∃ v,e=.returned (.tuple #[.int .i64 (unk f),v])∧Row w' v (ints (brs f.devs ((f.nodes.length:Int)-1) f.devs.length))∧w.grownBy w' none:=by
 have gw:=Af w (.cells #[.slice A1 f.nodes.length c1,.slice A2 f.devs.length c2,.int .i64 f.step.1,.int .i64 f.step.2,.int .i64 f.method] 27) none
 have hB:=FlatBox.of (Blk.new w #[.slice A1 f.nodes.length c1,.slice A2 f.devs.length c2,.int .i64 f.step.1,.int .i64 f.step.2,.int .i64 f.method] 27)
 have hC:=Dm _ f A1 c1 A2 c2 (hf.more gw) (hG.more gw)
 rw [h0] at hC
 have HC:=Ac hC
 have HF:=Ac (hf.more gw)
 have HB:=Ac hB
 have hun:unk f=(f.nodes.length:Int)-1+nbr f.devs f.devs.length:=rfl
 have HU:=Ac hun
 clear hC hf hG h0 hun
 obtain ⟨p0,p1,p2,p3,p4⟩:=hB
 go_enter Tryz.func56,Tryz.ntmps56
 go_wp2_with fail
 generalize w.alloc (.cells #[.slice A1 f.nodes.length c1,.slice A2 f.devs.length c2,.int .i64 f.step.1,.int .i64 f.step.2,.int .i64 f.method] 27)=wa at *
 refine HC.out.mono ?_
 rintro e w1 ⟨rfl,hg1⟩
 clear p0 p1 p2 p3 p4
 obtain ⟨p0,p1,p2,p3,p4⟩:=HB.out.more hg1
 have hcc:=Mg w1 _ _ f.step.1 f.step.2 f.method f.nodes f.devs (HF.out.more hg1).nodes (HF.out.more hg1).devs HF.out.n1 HF.out.n2
 rw [←HU.out] at hcc
 have HCC:=Ac hcc
 clear hcc
 go_wp2_with fail
 refine HCC.out.mono ?_
 rintro e w2 ⟨v,rfl,hr,hfr,hg2⟩
 go_wp2_with fail
 go_ret2
 exact ⟨v,rfl,hr,Ae gw (Ae hg1 hg2)⟩
end
section
open Go.RowKit Go.Maps
open Rat
theorem Fb {f:Bf} (h:Cq f=0):f.nodes.length≤32∧f.devs.length≤64∧unk f≤48∧1≤f.nodes.length∧∀ i,i<f.devs.length→devB f.nodes.length f.devs (f.devs.getD i dev0)=true:=by
 unfold Cq at h
 by_cases h1:(Fv f&&Ca f&&f.nodes.all D3&&Em f&&decide (Cx f.devs).Nodup)=true
 ·rw [if_pos h1] at h
  simp only [Bool.and_eq_true] at h1
  obtain ⟨⟨⟨⟨_,h2⟩,_⟩,h3⟩,_⟩:=h1
  unfold Ca at h2
  simp only [Bool.and_eq_true,decide_eq_true_eq] at h2
  have h4:unk f≤48:=by
   by_cases hu:unk f≤48
   ·exact hu
   ·rw [if_neg hu] at h;omega
  exact ⟨h2.1.1.1.2,h2.1.2,h4,h2.1.1.1.1,of_decide_eq_true h3⟩
 ·rw [if_neg h1] at h;omega
theorem Wm {nn:Nat} {ds:List DevP} {d:DevP} (h:devB nn ds d=true) (hnn:nn≤32):NodesOK d∧(d.nodes.length:Int)=Cl d.kind∧Cl d.kind≠0∧G4 ds d=true:=by
 unfold devB at h
 simp only [Bool.and_eq_true,decide_eq_true_eq] at h
 obtain ⟨⟨⟨⟨h1,h2⟩,_⟩,h3⟩,h4⟩:=h
 refine ⟨fun i hi=>?_,h2,h1,h4⟩
 have:=of_decide_eq_true h3 i hi
 omega
set_option maxRecDepth 100000 in
theorem P0 (w:World) (f:Bf) (A1:Option Addr) (c1:Nat) (A2:Option Addr) (c2:Nat) (hf:FlatAt w f A1 c1 A2 c2) (hG:GlobOK w) (h0:Cq f=0)
  (mode method:Int) (step:Int × Int) (i1:I64 step.1) (i2:I64 step.2) (hs:setB mode method step=true) (k:Nat) (hk:k<f.devs.length) (seg:Int) (hb:Bp (f.devs.getD k dev0).kind=false) :
  Calls Tryz.prog 137 #[.agg #[.slice A1 f.nodes.length c1,.slice A2 f.devs.length c2,.int .i64 f.step.1,.int .i64 f.step.2,.int .i64 f.method],.int .i64 (k:Int),.agg #[.int .i64 mode,.int .i64 method,.int .i64 step.1,.int .i64 step.2],.int .i64 seg] w fun e w'=>∃ W0 pb An cn Av cv As cs Ag cg Am cm,e=.returned (.tuple #[.pointer (some ⟨pb,0,none⟩),.int .i64 0])∧PenS W0 w' pb (f.devs.getD k dev0) An cn Av cv As cs Ag cg Am cm (brs f.devs ((f.nodes.length:Int)-1) f.devs.length) k []∧w.grownBy w' none∧w.grownBy W0 none:=by
 have g1:=Af w (.cells #[.slice A1 f.nodes.length c1,.slice A2 f.devs.length c2,.int .i64 f.step.1,.int .i64 f.step.2,.int .i64 f.method] 27) none
 have g2:=Af (w.alloc (.cells #[.slice A1 f.nodes.length c1,.slice A2 f.devs.length c2,.int .i64 f.step.1,.int .i64 f.step.2,.int .i64 f.method] 27)) (.cells #[.int .i64 mode,.int .i64 method,.int .i64 step.1,.int .i64 step.2] 29) none
 have gw:=Ae g1 g2
 have hFB:=(FlatBox.of (Blk.new w #[.slice A1 f.nodes.length c1,.slice A2 f.devs.length c2,.int .i64 f.step.1,.int .i64 f.step.2,.int .i64 f.method] 27)).more g2
 have hSB:=Blk.new (w.alloc (.cells #[.slice A1 f.nodes.length c1,.slice A2 f.devs.length c2,.int .i64 f.step.1,.int .i64 f.step.2,.int .i64 f.method] 27)) #[.int .i64 mode,.int .i64 method,.int .i64 step.1,.int .i64 step.2] 29
 rw [World.size_alloc] at hSB
 have hCF:=Dm _ f A1 c1 A2 c2 (hf.more gw) (hG.more gw)
 rw [h0] at hCF
 have HCF:=Ac hCF
 have HF:=Ac (hf.more gw)
 have HG:=Ac (hG.more gw)
 have HFB:=Ac hFB
 have HSB:=Ac hSB
 have HS:=Ac hs
 have H0:=Ac h0
 obtain ⟨p0,p1,p2,p3,p4⟩:=hFB
 obtain ⟨r0,r1,r2,r3,_⟩:=hSB.four
 clear hCF hf hG h0 g1 g2 hs hSB
 go_enter Tryz.func137,Tryz.ntmps137
 go_wp2_with fail
 generalize (w.alloc (.cells #[.slice A1 f.nodes.length c1,.slice A2 f.devs.length c2,.int .i64 f.step.1,.int .i64 f.step.2,.int .i64 f.method] 27)).alloc (.cells #[.int .i64 mode,.int .i64 method,.int .i64 step.1,.int .i64 step.2] 29)=wa at *
 generalize w.heap.size=s at *
 refine HCF.out.mono ?_
 rintro e w1 ⟨rfl,hg1⟩
 clear p0 p1 p2 p3 p4 r0 r1 r2 r3
 obtain ⟨p0,p1,p2,p3,p4⟩:=HFB.out.more hg1
 obtain ⟨r0,r1,r2,r3,_⟩:=(HSB.out.more hg1).four
 have hCS:=G7 w1 mode method step i1 i2
 rw [HS.out,if_pos rfl] at hCS
 have HCS:=Ac hCS
 clear hCS
 go_wp2_with fail
 refine HCS.out.mono ?_
 rintro e w2 ⟨rfl,hg2⟩
 clear p0 p1 p2 p3 p4 r0 r1 r2 r3
 have g12:=Ae hg1 hg2
 obtain ⟨p0,p1,p2,p3,p4⟩:=HFB.out.more g12
 obtain ⟨b,o,An,cn,Av,cv,As,cs,Ag,cg,Am,cm,rfl,hat,hc⟩:=(HF.out.more g12).devs.at2 hk
 have e1:(k:Int)<(f.devs.length:Int):=by omega
 have e0:¬ (k:Int)<0:=by omega
 have e2:¬ (f.devs.length:Int)≤(k:Int):=by omega
 have e3:(0:Int)≤(k:Int):=by omega
 have HAT:=Ac hat
 generalize hdd:f.devs.getD k dev0=d at *
 have HDD:=Ac hdd
 clear hdd
 have t100:(d.kind==100)=false:=by rw [beq_eq_false_iff_ne];intro h;simp [Bp,h] at hb
 have t115:(d.kind==115)=false:=by rw [beq_eq_false_iff_ne];intro h;simp [Bp,h] at hb
 obtain ⟨q0,q1,q2,q3,q4,q5,q6,q7,q8,q9,q10,q11,q12⟩:=hc
 have ga:=Af w2 (.cells #[.int .u8 d.kind,.string d.name,.slice An d.nodes.length cn,.int .i64 d.ref,.int .i64 d.val.1,.int .i64 d.val.2,.int .i64 d.wkind,.slice Av d.wvals.length cv,.slice As d.wsteps.length cs,.string d.mname,.int .u8 d.mkind,.slice Ag d.mg.length cg,.slice Am d.mv.length cm] 89) none
 have hDB:=DevBox.of (Blk.new w2 #[.int .u8 d.kind,.string d.name,.slice An d.nodes.length cn,.int .i64 d.ref,.int .i64 d.val.1,.int .i64 d.val.2,.int .i64 d.wkind,.slice Av d.wvals.length cv,.slice As d.wsteps.length cs,.string d.mname,.int .u8 d.mkind,.slice Ag d.mg.length cg,.slice Am d.mv.length cm] 89)
 have HDB:=Ac hDB
 obtain ⟨m0,m1,m2,m3,m4,m5,m6,m7,m8,m9,m10,m11,m12⟩:=hDB
 have p0:=Aj ga p0 (by simp)
 have p1:=Aj ga p1 (by simp)
 have p2:=Aj ga p2 (by simp)
 have p3:=Aj ga p3 (by simp)
 have p4:=Aj ga p4 (by simp)
 have hU:=Iy (w2.alloc (.cells #[.int .u8 d.kind,.string d.name,.slice An d.nodes.length cn,.int .i64 d.ref,.int .i64 d.val.1,.int .i64 d.val.2,.int .i64 d.wkind,.slice Av d.wvals.length cv,.slice As d.wsteps.length cs,.string d.mname,.int .u8 d.mkind,.slice Ag d.mg.length cg,.slice Am d.mv.length cm] 89)) f A1 c1 (some ⟨b,o,none⟩) c2 ((HF.out.more g12).more ga) ((HG.out.more g12).more ga) H0.out
 have HU:=Ac hU
 clear hU hat hb
 go_wp2_with fail
 refine HU.out.mono ?_
 rintro e w3 ⟨v,rfl,hbr,hg3⟩
 clear q0 q1 q2 q3 q4 q5 q6 q7 q8 q9 q10 q11 q12 p0 p1 p2 p3 p4 m0 m1 m2 m3 m4 m5 m6 m7 m8 m9 m10 m11 m12
 obtain ⟨m0,m1,m2,m3,m4,m5,m6,m7,m8,m9,m10,m11,m12⟩:=HDB.out.more hg3
 have hfr:∃ Ab nb cb,v=.slice Ab nb cb:=by obtain ⟨A,c,rfl,_⟩:=hbr;exact ⟨_,_,_,rfl⟩
 obtain ⟨Ab,nb,cb,rfl⟩:=hfr
 have HBR:=Ac hbr
 have gW:=Ae gw (Ae g12 (Ae ga hg3))
 have HPEN:=Ac (PenS.mk (W0:=w3) (w:=w3.alloc (.cells #[.int .u8 d.kind,.string d.name,.slice An d.nodes.length cn,.int .i64 d.ref,.int .i64 d.val.1,.int .i64 d.val.2,.int .i64 d.wkind,.slice Av d.wvals.length cv,.slice As d.wsteps.length cs,.string d.mname,.int .u8 d.mkind,.slice Ag d.mg.length cg,.slice Am d.mv.length cm,.slice Ab nb cb,.int .i64 (k:Int),.slice none 0 0] 225)) (pb:=w3.heap.size) (L:=[]) (Nat.le_refl _) (Af _ _ _) (HAT.out.more (Ae ga hg3)) ⟨Ab,nb,cb,.slice none 0 0,[],HBR.out,Blk.new _ _ _,OwnQ.nil _ _ _ _,rfl,by simp [Value.ownBlock]⟩)
 have HGW:=Ac gW
 clear hbr gW ga hg3 g12 gw hg1 hg2
 go_wp2_with fail
 go_ret2
 exact ⟨w3,w3.heap.size,An,cn,Av,cv,As,cs,Ag,cg,Am,cm,rfl,by rw [HDD.out];exact HPEN.out,Ae HGW.out (Af _ _ _),HGW.out⟩
def At (f:Bf) (k:Nat):List StampP :=
 let d:=f.devs.getD k dev0
 let J:=(brs f.devs ((f.nodes.length:Int)-1) f.devs.length).getD k 0
 if d.kind=114 then C7 (d.at 0) (d.at 1) (d.at 0) (d.at 1) (numQ d.val.1 d.val.2)⁻¹
 else outL (d.at 0) (d.at 1) J++(Bw (d.at 0) (d.at 1) J++put1 3 J k 1)
def StampRow (w:World) (v:Value) (L:List StampP):Prop :=
 ∃ A c,v=.slice A L.length c∧(0<L.length→∃ b,A=some ⟨b,0,none⟩∧∀ i (hi:i<L.length),∃ cs,StampR w cs L[i]∧∀ j,j<7→w.cell? ⟨b,i*7+j,none⟩=cs[j]?)
theorem PenS.out {W0 w:World} {pb:Nat} {d:DevP} {An Av As Ag Am:Option Addr} {cn cv cs cg cm:Nat} {br:List Int} {k:Int} {L:List StampP} (h:PenS W0 w pb d An cn Av cv As cs Ag cg Am cm br k L) :
  ∃ A c,w.cell? ⟨pb,15,none⟩=some (.slice A L.length c)∧StampRow w (.slice A L.length c) L:=by
 obtain ⟨Ab,nb,cb,lv,xs,h1,h2,h3,h4,h5⟩:=h.pen
 have hlen:=h4.length
 rcases h3.1.2 with ⟨rfl,h0⟩ | ⟨g,cap,cur,rfl,_,hh,_,_,_,htk⟩
 ·refine ⟨none,0,by rw [h0];exact h2.cell 15,⟨none,0,rfl,fun hp=>by omega⟩⟩
 ·refine ⟨some ⟨g,0,none⟩,cap,h2.cell 15,⟨_,_,rfl,fun _=>⟨g,rfl,fun i hi=>?_⟩⟩⟩
  obtain ⟨cs',hr,hcells⟩:=h4.at i hi
  refine ⟨cs',hr,fun j hj=>?_⟩
  rw [Ay hh,←hcells j hj,←htk,List.getElem?_take,if_pos (by omega)]
  simp
theorem Rx {ds:List DevP} {n0:Int} {t k:Nat} (h:k<t):(brs ds n0 t).getD k 0=brAt ds n0 k:=by
 simp [brs,List.getD,h]
set_option maxRecDepth 100000 in
theorem U2 (w:World) (f:Bf) (A1:Option Addr) (c1:Nat) (A2:Option Addr) (c2:Nat) (hf:FlatAt w f A1 c1 A2 c2) (hG:GlobOK w) (h0:Cq f=0)
  (mode method:Int) (step:Int × Int) (i1:I64 step.1) (i2:I64 step.2) (hs:setB mode method step=true) (k:Nat) (hk:k<f.devs.length) (seg:Int) (hkd:(f.devs.getD k dev0).kind=114∨(f.devs.getD k dev0).kind=118) :
  Calls Tryz.prog 57 #[.agg #[.slice A1 f.nodes.length c1,.slice A2 f.devs.length c2,.int .i64 f.step.1,.int .i64 f.step.2,.int .i64 f.method],.int .i64 (k:Int),.agg #[.int .i64 mode,.int .i64 method,.int .i64 step.1,.int .i64 step.2],.int .i64 seg] w fun e w'=>∃ A c,e=.returned (.tuple #[.slice A (At f k).length c,.int .i64 0])∧StampRow w' (.slice A (At f k).length c) (At f k)∧w.grownBy w' none:=by
 have hbn:Bp (f.devs.getD k dev0).kind=false:=by unfold Bp;rcases hkd with h | h<;>rw [h]<;>rfl
 have g1:=Af w (.cells #[.slice A1 f.nodes.length c1,.slice A2 f.devs.length c2,.int .i64 f.step.1,.int .i64 f.step.2,.int .i64 f.method] 27) none
 have g2:=Af (w.alloc (.cells #[.slice A1 f.nodes.length c1,.slice A2 f.devs.length c2,.int .i64 f.step.1,.int .i64 f.step.2,.int .i64 f.method] 27)) (.cells #[.int .i64 mode,.int .i64 method,.int .i64 step.1,.int .i64 step.2] 29) none
 have gw:=Ae g1 g2
 have hFB:=(FlatBox.of (Blk.new w #[.slice A1 f.nodes.length c1,.slice A2 f.devs.length c2,.int .i64 f.step.1,.int .i64 f.step.2,.int .i64 f.method] 27)).more g2
 have hSB:=Blk.new (w.alloc (.cells #[.slice A1 f.nodes.length c1,.slice A2 f.devs.length c2,.int .i64 f.step.1,.int .i64 f.step.2,.int .i64 f.method] 27)) #[.int .i64 mode,.int .i64 method,.int .i64 step.1,.int .i64 step.2] 29
 rw [World.size_alloc] at hSB
 have HBG:=Ac (P0 _ f A1 c1 A2 c2 (hf.more gw) (hG.more gw) h0 mode method step i1 i2 hs k hk seg hbn)
 have HFB:=Ac hFB
 have HSB:=Ac hSB
 have HGW:=Ac gw
 obtain ⟨p0,p1,p2,p3,p4⟩:=hFB
 obtain ⟨r0,r1,r2,r3,_⟩:=hSB.four
 obtain ⟨f1,f2,f3,f4,f5⟩:=Fb h0
 obtain ⟨d1,d2,d3,d4⟩:=Wm (f5 k hk) f1
 have hbr:=Rx (ds:=f.devs) (n0:=(f.nodes.length:Int)-1) hk
 have hnb:=Up f.devs k
 have hsl:At f k=(let d:=f.devs.getD k dev0;let J:=(brs f.devs ((f.nodes.length:Int)-1) f.devs.length).getD k 0;if d.kind=114 then C7 (d.at 0) (d.at 1) (d.at 0) (d.at 1) (numQ d.val.1 d.val.2)⁻¹ else outL (d.at 0) (d.at 1) J++(Bw (d.at 0) (d.at 1) J++put1 3 J k 1)):=rfl
 have hJ:I64 ((brs f.devs ((f.nodes.length:Int)-1) f.devs.length).getD k 0):=by rw [hbr];unfold brAt;split<;>exact ⟨by omega,by omega⟩
 have hbl:k<(brs f.devs ((f.nodes.length:Int)-1) f.devs.length).length:=by rw [Ub];exact hk
 generalize hSL:At f k=SL at *
 dsimp only at hsl
 generalize brs f.devs ((f.nodes.length:Int)-1) f.devs.length=BR at *
 generalize f.devs.getD k dev0=d at *
 have HSLE:=Ac hsl
 have HD1:=Ac d1
 have HKB:=Ac d4
 have HJ:=Ac hJ
 have h2n:2≤d.nodes.length:=by rcases hkd with h | h<;>(rw [h] at d2;simp [Cl] at d2;omega)
 clear hf hG h0 hs hbn g1 g2 gw hSB f1 f3 f4 f5 d1 d2 d3 d4 hbr hnb hsl hJ hSL
 go_enter Tryz.func57,Tryz.ntmps57
 go_wp2_with fail
 generalize (w.alloc (.cells #[.slice A1 f.nodes.length c1,.slice A2 f.devs.length c2,.int .i64 f.step.1,.int .i64 f.step.2,.int .i64 f.method] 27)).alloc (.cells #[.int .i64 mode,.int .i64 method,.int .i64 step.1,.int .i64 step.2] 29)=wa at *
 generalize w.heap.size=s at *
 refine HBG.out.mono ?_
 rintro e w1 ⟨W0,pb,An,cn,Av,cv,As,cs,Ag,cg,Am,cm,rfl,hpen,hg1,hgW⟩
 clear p0 p1 p2 p3 p4 r0 r1 r2 r3
 obtain ⟨p0,p1,p2,p3,p4⟩:=HFB.out.more hg1
 obtain ⟨r0,r1,r2,r3,_⟩:=(HSB.out.more hg1).four
 have HGA:=Ac (Ae HGW.out hgW)
 have HPEN:=Ac hpen
 clear hpen hg1 hgW
 rcases hkd with hkd | hkd
 ·have hval:NumOK d.val.1 d.val.2∧d.val.1≠0:=by
   have h:=HKB.out
   unfold G4 at h
   rw [if_neg (by omega),if_neg (by omega)] at h
   simp only [Bool.and_eq_true,hkd] at h
   obtain ⟨⟨⟨⟨_,h1⟩,h2⟩,_⟩,_⟩:=h
   exact ⟨of_decide_eq_true h1,by simpa using h2⟩
  have HW:=Ac (A1e W0 w1 pb d An cn Av cv As cs Ag cg Am cm BR k [] HPEN.out HD1.out h2n hkd hval.1 hval.2 (by simp) A1 f.nodes.length c1 A2 f.devs.length c2 f.step.1 f.step.2 f.method mode method step.1 step.2 seg)
  have HE:Hid (SL=C7 (d.at 0) (d.at 1) (d.at 0) (d.at 1) (numQ d.val.1 d.val.2)⁻¹):=Ac (by rw [HSLE.out,if_pos hkd])
  clear hkd hval
  go_wp2_with fail
  refine HW.out.mono ?_
  rintro e w2 ⟨rfl,h1⟩
  have hP:=h1.out.1
  rw [List.nil_append,←HE.out] at hP
  obtain ⟨A,c,hc,hrow⟩:=hP.out
  have HROW:=Ac hrow
  have HGR:=Ac hP.grown
  clear hrow hP h1 p0 p1 p2 p3 p4 r0 r1 r2 r3
  go_wp2_with fail
  go_ret2
  exact ⟨A,c,rfl,HROW.out,Ae HGA.out HGR.out⟩
 ·have hval:NumOK d.val.1 d.val.2:=by
   have h:=HKB.out
   unfold G4 at h
   rw [if_pos (.inl hkd)] at h
   simp only [Bool.and_eq_true,valZ,decide_eq_true_eq] at h
   exact .inl h.1.1.2
  have HW:=Ac (A1h W0 w1 pb d An cn Av cv As cs Ag cg Am cm BR k [] HPEN.out HD1.out h2n hkd hval (by simp) (by omega) (by simpa using hbl) (by simpa using HJ.out) ⟨by omega,by omega⟩ A1 f.nodes.length c1 A2 f.devs.length c2 f.step.1 f.step.2 f.method mode method step.1 step.2 seg)
  have HE:Hid (SL=outL (d.at 0) (d.at 1) (BR.getD k 0)++(Bw (d.at 0) (d.at 1) (BR.getD k 0)++put1 3 (BR.getD k 0) k 1)):=Ac (by rw [HSLE.out,if_neg (by omega)])
  clear hkd hval
  go_wp2_with fail
  refine HW.out.mono ?_
  rintro e w2 ⟨rfl,h1⟩
  have hP:=h1.out.1
  rw [List.nil_append,Int.toNat_natCast,←HE.out] at hP
  obtain ⟨A,c,hc,hrow⟩:=hP.out
  have HROW:=Ac hrow
  have HGR:=Ac hP.grown
  clear hrow hP h1 p0 p1 p2 p3 p4 r0 r1 r2 r3
  go_wp2_with fail
  go_ret2
  exact ⟨A,c,rfl,HROW.out,Ae HGA.out HGR.out⟩
end
section
open Go.RowKit
open Rat
def StampP.cellAt (x:StampP):Nat:=x.row.toNat*5+x.kind.toNat
def hitB (i:Nat) (c:Int) (x:StampP):Bool:=decide (x.cellAt=i)&&decide (x.col=c)
def hasQ (L:List StampP) (i:Nat) (c:Int):Bool:=L.any (hitB i c)
def accQ:List StampP→Nat→Int→Rat
 | [],_,_=>0
 | x::L,i,c=>(if hitB i c x then x.val else 0)+accQ L i c
theorem Wr (L:List StampP) (x:StampP) (i:Nat) (c:Int):hasQ (L++[x]) i c=(hasQ L i c||hitB i c x):=by simp [hasQ]
theorem Md (L M:List StampP) (i:Nat) (c:Int):accQ (L++M) i c=accQ L i c+accQ M i c:=by
 induction L with
 | nil=>simp [accQ,Rat.zero_add]
 | cons x L ih=>simp only [List.cons_append,accQ,ih,Rat.add_assoc]
theorem Wb (L:List StampP) (x:StampP) (i:Nat) (c:Int):accQ (L++[x]) i c=accQ L i c+(if hitB i c x then x.val else 0):=by
 rw [Md];simp [accQ,Rat.add_zero]
theorem Wa {L:List StampP} {i:Nat} {c:Int} (h:hasQ L i c=false):accQ L i c=0:=by
 induction L with
 | nil=>rfl
 | cons x L ih =>
  simp only [hasQ,List.any_cons,Bool.or_eq_false_iff] at h
  rw [accQ,h.1,ih h.2];simp [Rat.add_zero]
theorem LimQ.add2 {p q:Rat} {a b:Nat} (hp:LimQ p a) (hq:LimQ q b):LimQ (p+q) (a+b+1):=by
 rw [If]
 refine LimQ.divInt (Gn p q) (Mz ?_ ?_) ?_
 ·have:=C9 p.num q.den;have:=hp.1;have:=hq.2;omega
 ·have:=C9 q.num p.den;have:=hq.1;have:=hp.2;omega
 ·have:=C9 p.den q.den;have:=hp.2;have:=hq.2;omega
theorem LimQ.zero (k:Nat) (h:1≤k):LimQ 0 k:=⟨by have:lim (0:Rat).num=0:=rfl;omega,by have:lim ((0:Rat).den:Int)=1:=rfl;omega⟩
def LimL (L:List StampP) (K:Nat):Prop:=∀ x∈L,LimQ x.val K
theorem Kr {L:List StampP} {K:Nat} (h:LimL L K) (i:Nat) (c:Int):LimQ (accQ L i c) (L.length*(K+2)+1):=by
 induction L with
 | nil=>exact LimQ.zero _ (by simp)
 | cons x L ih =>
  have h1:=ih (fun y hy=>h y (.tail _ hy))
  rw [accQ]
  have h2:LimQ (if hitB i c x then x.val else 0) (K+1):=by
   split
   ·exact (h x (.head _)).mono (by omega)
   ·exact LimQ.zero _ (by omega)
  exact (h2.add2 h1).mono (by rw [List.length_cons,Nat.succ_mul];omega)
def Jx:List StampP→Nat
 | []=>1
 | x::L=>x.val.den*Jx L
theorem Lr (L:List StampP):0<Jx L:=by
 induction L with
 | nil=>decide
 | cons x L ih=>exact Nat.mul_pos x.val.den_pos ih
theorem S5 (p q:Rat):(p+q).den∣p.den*q.den:=by
 rw [Rat.add_def,Rat.normalize_eq]
 exact Nat.div_dvd_of_dvd (Nat.gcd_dvd_right _ _)
theorem Rt (L:List StampP) (i:Nat) (c:Int):(accQ L i c).den∣Jx L:=by
 induction L with
 | nil=>exact Nat.dvd_refl _
 | cons x L ih =>
  rw [accQ,Jx]
  refine Nat.dvd_trans (S5 _ _) (Nat.mul_dvd_mul ?_ ih)
  split
  ·exact Nat.dvd_refl _
  ·exact Nat.one_dvd _
theorem Pd {L:List StampP} {K:Nat} (h:LimL L K):lim (Jx L:Int)≤L.length*K+1:=by
 induction L with
 | nil=>simp only [Jx];have:lim ((1:Nat):Int)=1:=rfl;omega
 | cons x L ih =>
  have h1:=ih (fun y hy=>h y (.tail _ hy))
  rw [Jx,Int.natCast_mul]
  have h2:=C9 (x.val.den:Int) (Jx L:Int)
  have h3:=(h x (.head _)).2
  rw [List.length_cons,Nat.succ_mul]
  omega
theorem Vr {a b:Nat} (h:a∣b) (hb:0<b):lim (a:Int)≤lim (b:Int):=Ea (by simp;exact Nat.le_of_dvd hb h)
def IsMult (L:List StampP) (r:Nat) (m:Nat):Prop :=
 (∀ k c,k<5→hasQ L (r*5+k) c=true→(accQ L (r*5+k) c).den∣m)∧∀ m',(∀ k c,k<5→hasQ L (r*5+k) c=true→(accQ L (r*5+k) c).den∣m')→m∣m'
theorem IsMult.unique {L:List StampP} {r m m':Nat} (h:IsMult L r m) (h':IsMult L r m'):m=m':=Nat.dvd_antisymm (h.2 m' h'.1) (h'.2 m h.1)
theorem IsMult.dvd {L:List StampP} {r m:Nat} (h:IsMult L r m):m∣Jx L:=h.2 _ fun _ _ _ _=>Rt _ _ _
def Hw (L:List StampP) (r:Nat):List StampP→Nat
 | []=>1
 | x::M=>if x.cellAt/5=r then Nat.lcm (accQ L x.cellAt x.col).den (Hw L r M) else Hw L r M
def E4 (L:List StampP) (r:Nat):Nat:=Hw L r L
theorem Fw {i:Nat} {c:Int} {x:StampP}:hitB i c x=true↔x.cellAt=i∧x.col=c:=by simp [hitB]
theorem J9 (L:List StampP) (r:Nat):IsMult L r (E4 L r):=by
 have key:∀ M:List StampP,(∀ x∈M,x.cellAt/5=r→(accQ L x.cellAt x.col).den∣Hw L r M)∧∀ m',(∀ x∈M,x.cellAt/5=r→(accQ L x.cellAt x.col).den∣m')→Hw L r M∣m':=by
  intro M
  induction M with
  | nil=>exact ⟨by simp,fun m' _=>Nat.one_dvd _⟩
  | cons y M ih =>
   rw [Hw]
   constructor
   ·intro x hx hr
    rcases List.mem_cons.1 hx with rfl | hx
    ·rw [if_pos hr];exact Nat.dvd_lcm_left _ _
    ·have:=ih.1 x hx hr
     split
     ·exact Nat.dvd_trans this (Nat.dvd_lcm_right _ _)
     ·exact this
   ·intro m' h
    have h2:=ih.2 m' (fun x hx=>h x (.tail _ hx))
    split
    ·rename_i hr;exact Nat.lcm_dvd (h y (.head _) hr) h2
    ·exact h2
 obtain ⟨k1,k2⟩:=key L
 constructor
 ·intro k c hk hh
  obtain ⟨x,hx,he⟩:=List.any_eq_true.1 hh
  obtain ⟨e1,e2⟩:=Fw.1 he
  have:=k1 x hx (by rw [e1];omega)
  rw [e1,e2] at this
  exact this
 ·intro m' h
  refine k2 m' fun x hx hr=>?_
  have e:x.cellAt=r*5+x.cellAt % 5:=by omega
  have h2:=h (x.cellAt % 5) x.col (by omega) (by rw [hasQ,List.any_eq_true];exact ⟨x,hx,Fw.2 ⟨e,rfl⟩⟩)
  rw [e]
  exact h2
theorem Xb {L:List StampP} {K:Nat} (h:LimL L K) (r:Nat):lim (E4 L r:Int)≤L.length*K+1 :=
 Nat.le_trans (Vr (J9 L r).dvd (Lr L)) (Pd h)
/-! ### cells -/
def Fi (q:Rat) (m:Nat):Int:=(q.num*(m:Int)).tdiv q.den
def Fl (l:List Int):Prop:=l.Pairwise (· < ·)
def insC (c:Int):List Int→List Int
 | []=>[c]
 | d::l=>if c<d then c::d::l else if c=d then d::l else d::insC c l
theorem Nw {c x:Int}:∀ {l:List Int},x∈insC c l↔x=c∨x∈l
 | []=>by simp [insC]
 | d::l=>by
  unfold insC
  split
  ·simp
  ·split
   ·rename_i h;subst h;simp
   ·simp only [List.mem_cons,Nw (l:=l)]
    constructor
    ·rintro (h | h | h)
     ·exact .inr (.inl h)
     ·exact .inl h
     ·exact .inr (.inr h)
    ·rintro (h | h | h)
     ·exact .inr (.inl h)
     ·exact .inl h
     ·exact .inr (.inr h)
theorem Mn {c:Int}:∀ {l:List Int},Fl l→Fl (insC c l)
 | [],_=>by simp [insC,Fl]
 | d::l,h=>by
  have h1:=List.pairwise_cons.1 h
  unfold insC
  split
  ·rename_i hc
   refine List.pairwise_cons.2 ⟨fun x hx=>?_,h⟩
   rcases List.mem_cons.1 hx with rfl | hx
   ·exact hc
   ·have:=h1.1 x hx;omega
  ·split
   ·exact h
   ·rename_i hc hd
    refine List.pairwise_cons.2 ⟨fun x hx=>?_,Mn h1.2⟩
    rcases Nw.1 hx with rfl | hx
    ·omega
    ·exact h1.1 x hx
theorem K0:∀ {l m:List Int},Fl l→Fl m→(∀ c,c∈l↔c∈m)→l=m
 | [],[],_,_,_=>rfl
 | [],d::m,_,_,h=>by have:=(h d).2 (.head _);simp at this
 | d::l,[],_,_,h=>by have:=(h d).1 (.head _);simp at this
 | a::l,b::m,hl,hm,h=>by
  have h1:=List.pairwise_cons.1 hl
  have h2:=List.pairwise_cons.1 hm
  have e:a=b:=by
   rcases List.mem_cons.1 ((h a).1 (.head _)) with h3 | h3
   ·exact h3
   ·rcases List.mem_cons.1 ((h b).2 (.head _)) with h4 | h4
    ·exact h4.symm
    ·have:=h1.1 b h4;have:=h2.1 a h3;omega
  subst e
  rw [K0 h1.2 h2.2 fun c=>?_]
  constructor
  ·intro hc
   rcases List.mem_cons.1 ((h c).1 (.tail _ hc)) with h3 | h3
   ·have:=h1.1 c hc;omega
   ·exact h3
  ·intro hc
   rcases List.mem_cons.1 ((h c).2 (.tail _ hc)) with h3 | h3
   ·have:=h2.1 c hc;omega
   ·exact h3
def G2:List StampP→Nat→List Int
 | [],_=>[]
 | x::L,i=>if x.cellAt=i then insC x.col (G2 L i) else G2 L i
theorem Je (L:List StampP) (i:Nat):Fl (G2 L i):=by
 induction L with
 | nil=>exact List.Pairwise.nil
 | cons x L ih =>
  rw [G2]
  split
  ·exact Mn ih
  ·exact ih
theorem J8 (L:List StampP) (i:Nat) (c:Int):c∈G2 L i↔hasQ L i c=true:=by
 induction L with
 | nil=>simp [G2,hasQ]
 | cons x L ih =>
  rw [G2,hasQ,List.any_cons,Bool.or_eq_true,Fw]
  rw [hasQ] at ih
  split
  ·rename_i h
   rw [Nw,ih]
   constructor
   ·rintro (h1 | h1)
    ·exact .inl ⟨h,h1.symm⟩
    ·exact .inr h1
   ·rintro (h1 | h1)
    ·exact .inl h1.2.symm
    ·exact .inr h1
  ·rename_i h
   rw [ih]
   constructor
   ·exact .inr
   ·rintro (h1 | h1)
    ·exact absurd h1.1 h
    ·exact h1
theorem A0b {L:List StampP} {i:Nat} {l:List Int} (hl:Fl l) (h:∀ c,c∈l↔hasQ L i c=true):l=G2 L i :=
 K0 hl (Je L i) fun c=>(h c).trans (J8 L i c).symm
def F9 (L:List StampP) (i m:Nat) (c:Int):Option (Int × Int):=if accQ L i c=0 then none else some (c,Fi (accQ L i c) m)
def J0 (L:List StampP) (i m:Nat):List (Int × Int):=(G2 L i).filterMap (F9 L i m)
end
section
open Go.RowKit Go.Maps
open Rat
theorem lawI:Keyed Tryz.prog 3:=int_keyed Tryz.underlying3
theorem W3 (w:World):(zeroValue 188).run Tryz.prog w=.ok (.pointer none) w:=by kernel_rfl
def Gd:Value→Option (DataW Unit × List MemPlace)
 | .pointer (some ⟨b,0,none⟩)=>some (.lit (.int .u64 b),[])
 | .pointer none=>some (.agg [],[])
 | _=>none
def O9:Option Nat→Value
 | some b=>.pointer (some ⟨b,0,none⟩)
 | none=>.pointer none
theorem Jd {v:Value} {y:DataW Unit × List MemPlace} (h:Gd v=some y):∃ o,v=O9 o∧y=((match o with | some b=>.lit (.int .u64 (b:Nat)) | none=>.agg []),[]):=by
 unfold Gd at h
 split at h
 ·rename_i b;exact ⟨some b,rfl,by injection h with h;exact h.symm⟩
 ·exact ⟨none,rfl,by injection h with h;exact h.symm⟩
 ·cases h
theorem Mm {v:Value} {b:Nat} {ps:List MemPlace} (h:Gd v=some (.lit (.int .u64 (b:Nat)),ps)):v=.pointer (some ⟨b,0,none⟩):=by
 obtain ⟨o,rfl,e⟩:=Jd h
 cases o with
 | none=>injection e with e;cases e
 | some b' =>
  injection e with e _
  injection e with e
  injection e with _ e
  have:b=b':=by omega
  subst this;rfl
theorem Ss {v:Value} {ps:List MemPlace} (h:Gd v=some (.agg [],ps)):v=.pointer none:=by
 obtain ⟨o,rfl,e⟩:=Jd h
 cases o with
 | none=>rfl
 | some b'=>injection e with e;cases e
theorem Ol {c:Int} (h:I64 c):(Lit.int .i64 c).wf=true:=by
 have h1:=h.1;have h2:=h.2
 simp [Lit.wf,IntKind.min,IntKind.max,IntKind.bits,IntKind.signed]
 omega
theorem Z7 {c:Int} (h:(Lit.int .i64 c).wf=true):I64 c:=by
 simp [Lit.wf,IntKind.min,IntKind.max,IntKind.bits,IntKind.signed] at h
 constructor<;>omega
def MapB (w:World) (mb N:Nat) (F:Int→Option Nat):Prop :=
 (∀ c b,F c=some b→I64 c)∧∃ D,w.ownsMap Tryz.prog 3 Gd mb N D∧∀ c,I64 c→Maps.has D (.int .i64 c)=(F c).isSome∧∀ b,F c=some b→∀ z,D.atKey (.int .i64 c) z=.lit (.int .u64 (b:Nat))
def putF (F:Int→Option Nat) (c:Int) (b:Nat):Int→Option Nat:=fun d=>if d=c then some b else F d
theorem MapB.lt {w:World} {mb N:Nat} {F:Int→Option Nat} (h:MapB w mb N F):mb<w.heap.size:=by
 obtain ⟨_,D,h,_⟩:=h;exact h.lt
theorem MapB.obj {w:World} {mb N:Nat} {F:Int→Option Nat} (h:MapB w mb N F):∃ es cl,w.heap[mb]? = some (.map es cl):=by
 obtain ⟨_,D,⟨es,cl,h,_⟩,_⟩:=h;exact ⟨es,cl,h⟩
theorem MapB.mono {w:World} {mb N M:Nat} {F:Int→Option Nat} (h:MapB w mb N F) (hn:N≤M):MapB w mb M F:=by
 obtain ⟨h0,D,h,h2⟩:=h;exact ⟨h0,D,h.mono hn,h2⟩
theorem MapB.kept {w w':World} {row:Option Nat} {mb N:Nat} {F:Int→Option Nat} (h:MapB w mb N F) (hg:w.grownBy w' row) (hne:some mb≠row):MapB w' mb N F:=by
 obtain ⟨h0,D,h,h2⟩:=h;exact ⟨h0,D,h.kept hg hne,h2⟩
theorem MapB.made (w:World):MapB (w.alloc (.map #[] 0)) w.heap.size 0 (fun _=>none) :=
 ⟨fun _ _ h=>(by cases h),DataW.map [],World.ownsMap_made _ _ _ _,fun c _=>⟨rfl,fun _ h=>(by cases h)⟩⟩
theorem MapB.put {w:World} {mb N b:Nat} {F:Int→Option Nat} {c:Int} (h:MapB w mb N F) (hc:I64 c) (hn:N<maxLen) :
  ∃ w',(Instr.mapUpdate 129 (.map (some mb)) (.int .i64 c) (.pointer (some ⟨b,0,none⟩))).run Tryz.prog w=.ok () w'∧MapB w' mb (N+1) (putF F c b)∧w.grownBy w' (some mb):=by
 obtain ⟨h0,D,h,h2⟩:=h
 obtain ⟨w',hr,ho,hg⟩:=h.update (d:=.lit (.int .u64 (b:Nat))) (ps:=[]) lawI Tryz.underlying129 hn (keyOf_int_mk Tryz.underlying3 (Ol hc)) (val:=.pointer (some ⟨b,0,none⟩)) rfl
 have hm:=h.isMap
 refine ⟨w',hr,⟨fun d b' hd=>?_,_,ho,fun d hd=>?_⟩,hg⟩
 ·unfold putF at hd
  split at hd
  ·rename_i e;subst e;exact hc
  ·exact h0 d b' hd
 ·by_cases e:d=c
  ·subst e
   refine ⟨by rw [has_put_same hm (show WideAt.IsKeyLit (Lit.int .i64 d) from trivial)];simp [putF],fun b' hb z=>?_⟩
   rw [atKey_put_same hm (show WideAt.IsKeyLit (Lit.int .i64 d) from trivial)]
   simp [putF] at hb
   subst hb;rfl
  ·have hne:(Lit.int .i64 d)≠.int .i64 c:=fun hh=>e (by injection hh)
   refine ⟨by rw [has_put_other hne,(h2 d hd).1];simp [putF,e],fun b' hb z=>?_⟩
   rw [atKey_put_other hne]
   simp [putF,e] at hb
   exact (h2 d hd).2 b' hb z
theorem MapB.look {w:World} {mb N:Nat} {F:Int→Option Nat} {c:Int} (h:MapB w mb N F) (hc:I64 c) :
  (Instr.lookup 129 (.map (some mb)) (.int .i64 c) true).run Tryz.prog w=.ok (.tuple #[O9 (F c),.bool (F c).isSome]) w∧
   (Instr.lookup 129 (.map (some mb)) (.int .i64 c) false).run Tryz.prog w=.ok (O9 (F c)) w:=by
 obtain ⟨h0,D,h,h2⟩:=h
 obtain ⟨h3,h4⟩:=h2 c hc
 obtain ⟨v,ps,hr,hv⟩:=h.look_ok lawI Tryz.underlying129 (W3 w) (zd:=.agg []) (zp:=[]) rfl (keyOf_int_mk Tryz.underlying3 (Ol hc))
 obtain ⟨v2,ps2,hr2,hv2⟩:=h.lookup lawI Tryz.underlying129 (W3 w) (zd:=.agg []) (zp:=[]) rfl (keyOf_int_mk Tryz.underlying3 (Ol hc))
 have key:∀ v ps,Gd v=some (D.atKey (.int .i64 c) (.agg []),ps)→v=O9 (F c):=by
  intro v ps hv
  cases hF:F c with
  | none =>
   rw [hF] at h3
   rw [atKey_of_not_has h3] at hv
   exact Ss hv
  | some b =>
   rw [h4 b hF] at hv
   exact Mm hv
 rw [key v ps hv,h3] at hr
 rw [key v2 ps2 hv2] at hr2
 exact ⟨hr,hr2⟩
theorem Wy (w:World) {c:Int} (hc:I64 c):(Instr.lookup 129 (.map none) (.int .i64 c) true).run Tryz.prog w=.ok (.tuple #[.pointer none,.bool false]) w∧
  (Instr.lookup 129 (.map none) (.int .i64 c) false).run Tryz.prog w=.ok (.pointer none) w :=
 ⟨look_nil true lawI Tryz.underlying129 (W3 w) (keyOf_int_mk Tryz.underlying3 (Ol hc)),look_nil false lawI Tryz.underlying129 (W3 w) (keyOf_int_mk Tryz.underlying3 (Ol hc))⟩
/-! ### the rows' maps -/
structure SumsE (w:World) (base rb:Nat) (ms:List (Option Nat)) (E:Nat→Int→Option (Nat × Rat)) (N:Nat):Prop where
 rbase:base≤rb
 rows:∃ T:TypeId,w.heap[rb]? = some (Obj.cells (ms.map Value.map).toArray T (0,0))
 maps:∀ (i mb:Nat),ms[i]? = some (some mb)→base≤mb∧MapB w mb N (fun c=>(E i c).map Prod.fst)
 nil:∀ (i:Nat) (c:Int),ms[i]? = some none→E i c=none
 out:∀ (i:Nat) (c:Int),ms.length≤i→E i c=none
 rats:∀ (i:Nat) (c:Int) (b:Nat) (q:Rat),E i c=some (b,q)→base≤b∧RatB w b q
 minj:∀ (i j mb:Nat),ms[i]? = some (some mb)→ms[j]? = some (some mb)→i=j
 einj:∀ (i j:Nat) (c d:Int) (b:Nat) (q q':Rat),E i c=some (b,q)→E j d=some (b,q')→i=j∧c=d
theorem SumsE.cell {w:World} {base rb:Nat} {ms:List (Option Nat)} {E:Nat→Int→Option (Nat × Rat)} {N:Nat} (h:SumsE w base rb ms E N) {i:Nat} {o:Option Nat} (hi:ms[i]? = some o):w.cell? ⟨rb,i,none⟩=some (.map o):=by
 obtain ⟨T,hr⟩:=h.rows
 rw [Ay hr]
 simp [hi]
theorem SumsE.free {w:World} {base rb:Nat} {ms:List (Option Nat)} {E:Nat→Int→Option (Nat × Rat)} {N:Nat} (h:SumsE w base rb ms E N) (i:Nat):w.frozen? ⟨rb,i,none⟩=false:=by
 obtain ⟨T,hr⟩:=h.rows
 exact Bj hr i
theorem SumsE.more {w w':World} {base rb:Nat} {ms:List (Option Nat)} {E:Nat→Int→Option (Nat × Rat)} {N:Nat} (h:SumsE w base rb ms E N) (hg:w.grownBy w' none):SumsE w' base rb ms E N:=by
 obtain ⟨T,hr⟩:=h.rows
 exact ⟨h.rbase,⟨T,Do hg hr (by simp)⟩,fun i mb hi=>⟨(h.maps i mb hi).1,(h.maps i mb hi).2.kept hg (by simp)⟩,h.nil,h.out,fun i c b q hb=>⟨(h.rats i c b q hb).1,(h.rats i c b q hb).2.more hg⟩,h.minj,h.einj⟩
theorem SumsE.mono {w:World} {base rb:Nat} {ms:List (Option Nat)} {E:Nat→Int→Option (Nat × Rat)} {N M:Nat} (h:SumsE w base rb ms E N) (hn:N≤M):SumsE w base rb ms E M :=
 ⟨h.rbase,h.rows,fun i mb hi=>⟨(h.maps i mb hi).1,(h.maps i mb hi).2.mono hn⟩,h.nil,h.out,h.rats,h.minj,h.einj⟩
theorem SumsE.plain {w:World} {base rb:Nat} {ms:List (Option Nat)} {E:Nat→Int→Option (Nat × Rat)} {N:Nat} (h:SumsE w base rb ms E N):Dt w rb:=by
 obtain ⟨T,hr⟩:=h.rows
 refine C1 hr ?_
 intro u hu n e
 subst e
 simp at hu
theorem Gh {w:World} {mb:Nat} {es:Array MapEntry} {cl:Nat} (h:w.heap[mb]? = some (.map es cl)):Dt w mb:=by
 intro o n
 simp [World.cell?,h]
theorem SumsE.rat_ne_row {w:World} {base rb:Nat} {ms:List (Option Nat)} {E:Nat→Int→Option (Nat × Rat)} {N b:Nat} {q:Rat} (h:SumsE w base rb ms E N) (hb:RatB w b q):b≠rb:=by
 rintro rfl
 obtain ⟨T,hr⟩:=h.rows
 obtain ⟨vn,vd,d,T',_,hb,_⟩:=hb
 rw [hb] at hr
 injection hr with hr
 injection hr with e1 e2 e3
 have:=congrArg (fun a:Array Value=>a[0]?) e1
 cases h0:ms[0]? <;> simp [h0] at this
theorem Ke {w:World} {mb b:Nat} {q:Rat} {es:Array MapEntry} {cl:Nat} (hb:RatB w b q) (h:w.heap[mb]? = some (.map es cl)):b≠mb:=by
 rintro rfl
 obtain ⟨vn,vd,d,T',_,hb,_⟩:=hb
 rw [hb] at h
 cases h
theorem SumsE.map_ne_row {w:World} {base rb mb:Nat} {ms:List (Option Nat)} {E:Nat→Int→Option (Nat × Rat)} {N:Nat} {es:Array MapEntry} {cl:Nat} (h:SumsE w base rb ms E N) (hm:w.heap[mb]? = some (.map es cl)):mb≠rb:=by
 rintro rfl
 obtain ⟨T,hr⟩:=h.rows
 rw [hm] at hr
 cases hr
theorem SumsE.newMap {w:World} {base rb:Nat} {ms:List (Option Nat)} {E:Nat→Int→Option (Nat × Rat)} {N i mb:Nat} (h:SumsE w base rb ms E N) (hi:ms[i]? = some none) (hm:MapB w mb N (fun _=>none)) (hnew:∀ j:Nat,ms[j]?≠some (some mb)) (hb:base≤mb) :
  SumsE (w.setCell ⟨rb,i,none⟩ (.map (some mb))) base rb (ms.set i (some mb)) E N∧w.grownBy (w.setCell ⟨rb,i,none⟩ (.map (some mb))) (some rb):=by
 have hg:=Au w rb i (.map (some mb))
 have hp:=h.plain
 obtain ⟨es,cl,hmo⟩:=hm.obj
 have hmr:=h.map_ne_row hmo
 have hil:i<ms.length:=(List.getElem?_eq_some_iff.1 hi).1
 refine ⟨⟨h.rbase,?_,fun j mb' hj=>?_,fun j c hj=>?_,fun j c hj=>h.out j c (by simpa using hj),fun j c b q hq=>?_,fun j k mb' hj hk=>?_,h.einj⟩,hg⟩
 ·obtain ⟨T,hr⟩:=h.rows
  refine ⟨T,?_⟩
  rw [C4 hr]
  congr 2
  apply Array.ext'
  simp [List.map_set]
 ·rw [List.getElem?_set] at hj
  split at hj
  ·rename_i e;subst e
   simp [hil] at hj
   subst hj
   refine ⟨hb,?_⟩
   have hE:(fun c=>(E i c).map Prod.fst)=fun _=>none:=by funext c;rw [h.nil i c hi];rfl
   rw [hE]
   exact hm.kept hg (by simpa using hmr)
  ·have h2:=h.maps j mb' hj
   obtain ⟨es',cl',hmo'⟩:=h2.2.obj
   exact ⟨h2.1,h2.2.kept hg (by simpa using h.map_ne_row hmo')⟩
 ·rw [List.getElem?_set] at hj
  split at hj
  ·simp [hil] at hj
  ·exact h.nil j c hj
 ·have h2:=h.rats j c b q hq
  exact ⟨h2.1,h2.2.other hg hp (h.rat_ne_row h2.2)⟩
 ·rw [List.getElem?_set] at hj hk
  split at hj<;>split at hk
  ·omega
  ·simp [hil] at hj
   subst hj
   exact absurd hk (hnew k)
  ·simp [hil] at hk
   subst hk
   exact absurd hj (hnew j)
  ·exact h.minj j k mb' hj hk
def putE (E:Nat→Int→Option (Nat × Rat)) (i:Nat) (c:Int) (b:Nat) (q:Rat):Nat→Int→Option (Nat × Rat):=fun j d=>if j=i∧d=c then some (b,q) else E j d
theorem SumsE.newRat {w w':World} {base rb:Nat} {ms:List (Option Nat)} {E:Nat→Int→Option (Nat × Rat)} {N i mb b:Nat} {c:Int} (h:SumsE w base rb ms E N) (hi:ms[i]? = some (some mb)) (hE:E i c=none)
  (hrat:RatB w b 0) (hbb:base≤b) (hnew:∀ j d q,E j d≠some (b,q)) (hm:MapB w' mb (N+1) (putF (fun c=>(E i c).map Prod.fst) c b)) (hg:w.grownBy w' (some mb)):SumsE w' base rb ms (putE E i c b 0) (N+1):=by
 obtain ⟨es,cl,hmo⟩:=(h.maps i mb hi).2.obj
 have hmr:=h.map_ne_row hmo
 have hp:=Gh hmo
 refine ⟨h.rbase,?_,fun j mb' hj=>?_,fun j d hj=>?_,fun j d hj=>?_,fun j d b' q hq=>?_,h.minj,fun j k d e b' q q' hj hk=>?_⟩
 ·obtain ⟨T,hr⟩:=h.rows
  exact ⟨T,Do hg hr (by simpa using hmr.symm)⟩
 ·by_cases e:j=i
  ·subst e
   rw [hi] at hj
   injection hj with hj;injection hj with hj;subst hj
   refine ⟨(h.maps j mb hi).1,?_⟩
   have hE2:(fun d=>(putE E j c b 0 j d).map Prod.fst)=putF (fun c=>(E j c).map Prod.fst) c b:=by
    funext d;unfold putE putF
    by_cases e:d=c<;>simp [e]
   rw [hE2];exact hm
  ·have h2:=h.maps j mb' hj
   have hne:mb'≠mb:=fun hh=>e (h.minj j i mb (by rw [hj,hh]) hi)
   have hE2:(fun d=>(putE E i c b 0 j d).map Prod.fst)=fun d=>(E j d).map Prod.fst:=by
    funext d;unfold putE;rw [if_neg (fun hh=>e hh.1)]
   rw [hE2]
   exact ⟨h2.1,(h2.2.kept hg (by simpa using hne)).mono (by omega)⟩
 ·unfold putE
  rw [if_neg (fun hh=>by rw [hh.1,hi] at hj;cases hj)]
  exact h.nil j d hj
 ·unfold putE
  have:i<ms.length:=(List.getElem?_eq_some_iff.1 hi).1
  rw [if_neg (fun hh=>by omega)]
  exact h.out j d hj
 ·unfold putE at hq
  split at hq
  ·injection hq with hq
   simp only [Prod.mk.injEq] at hq
   obtain ⟨rfl,rfl⟩:=hq
   exact ⟨hbb,hrat.other hg hp (Ke hrat hmo)⟩
  ·have h2:=h.rats j d b' q hq
   exact ⟨h2.1,h2.2.other hg hp (Ke h2.2 hmo)⟩
 ·unfold putE at hj hk
  split at hj<;>split at hk
  ·rename_i h1 h2;exact ⟨h1.1.trans h2.1.symm,h1.2.trans h2.2.symm⟩
  ·injection hj with hj
   simp only [Prod.mk.injEq] at hj
   obtain ⟨rfl,_⟩:=hj
   exact absurd hk (hnew _ _ _)
  ·injection hk with hk
   simp only [Prod.mk.injEq] at hk
   obtain ⟨rfl,_⟩:=hk
   exact absurd hj (hnew _ _ _)
  ·exact h.einj j k d e b' q q' hj hk
theorem SumsE.setRat {w w':World} {base rb:Nat} {ms:List (Option Nat)} {E:Nat→Int→Option (Nat × Rat)} {N i b:Nat} {c:Int} {q0 q1:Rat} (h:SumsE w base rb ms E N) (hE:E i c=some (b,q0)) (hr1:RatB w' b q1) (hg:w.grownBy w' (some b)):SumsE w' base rb ms (putE E i c b q1) N:=by
 have hr0:=(h.rats i c b q0 hE).2
 have hp:=hr0.plain
 have hrr:=h.rat_ne_row hr0
 have hF:∀ j,(fun d=>(putE E i c b q1 j d).map Prod.fst)=fun d=>(E j d).map Prod.fst:=by
  intro j;funext d;unfold putE
  split
  ·rename_i e;rw [e.1,e.2,hE];rfl
  ·rfl
 refine ⟨h.rbase,?_,fun j mb' hj=>?_,fun j d hj=>?_,fun j d hj=>?_,fun j d b' q hq=>?_,h.minj,fun j k d e b' q q' hj hk=>?_⟩
 ·obtain ⟨T,hr⟩:=h.rows
  exact ⟨T,Do hg hr (by simpa using hrr.symm)⟩
 ·have h2:=h.maps j mb' hj
  obtain ⟨es,cl,hmo⟩:=h2.2.obj
  rw [hF]
  exact ⟨h2.1,h2.2.kept hg (by simpa using (Ke hr0 hmo).symm)⟩
 ·unfold putE
  rw [if_neg (fun hh=>by have:=h.nil j d hj;rw [hh.1,hh.2,hE] at this;cases this)]
  exact h.nil j d hj
 ·unfold putE
  rw [if_neg (fun hh=>by have:=h.out j d hj;rw [hh.1,hh.2,hE] at this;cases this)]
  exact h.out j d hj
 ·unfold putE at hq
  split at hq
  ·injection hq with hq
   simp only [Prod.mk.injEq] at hq
   obtain ⟨rfl,rfl⟩:=hq
   exact ⟨(h.rats i c b q0 hE).1,hr1⟩
  ·rename_i hne
   have h2:=h.rats j d b' q hq
   refine ⟨h2.1,h2.2.other hg hp ?_⟩
   rintro rfl
   exact hne (h.einj j i d c b' q q0 hq hE)
 ·unfold putE at hj hk
  split at hj<;>split at hk
  ·rename_i h1 h2;exact ⟨h1.1.trans h2.1.symm,h1.2.trans h2.2.symm⟩
  ·rename_i h1 h2
   injection hj with hj
   simp only [Prod.mk.injEq] at hj
   obtain ⟨rfl,_⟩:=hj
   have:=h.einj i k c e b q0 q' hE hk
   exact absurd ⟨this.1.symm,this.2.symm⟩ h2
  ·rename_i h1 h2
   injection hk with hk
   simp only [Prod.mk.injEq] at hk
   obtain ⟨rfl,_⟩:=hk
   have:=h.einj j i d c b q q0 hj hE
   exact absurd this h1
  ·exact h.einj j k d e b' q q' hj hk
def SumsS (w:World) (base rb n:Nat) (L:List StampP):Prop :=
 ∃ ms E,ms.length=n*5∧SumsE w base rb ms E L.length∧∀ i c,(E i c).map Prod.snd=if hasQ L i c then some (accQ L i c) else none
theorem SumsS.more {w w':World} {base rb n:Nat} {L:List StampP} (h:SumsS w base rb n L) (hg:w.grownBy w' none):SumsS w' base rb n L:=by
 obtain ⟨ms,E,h1,h2,h3⟩:=h;exact ⟨ms,E,h1,h2.more hg,h3⟩
theorem SumsS.lt {w:World} {base rb n:Nat} {L:List StampP} (h:SumsS w base rb n L):rb<w.heap.size:=by
 obtain ⟨ms,E,h1,h2,h3⟩:=h;obtain ⟨T,h2⟩:=h2.rows;exact Dq h2
end
end Go.Proofs.YtckbiimikeiejaaGreatDoor
