/- FlatF. -/
import Derived.Test.YtckbiimikeiejaaGreatDoorMaw
set_option linter.unusedVariables false
set_option linter.unusedSimpArgs false
set_option maxHeartbeats 40000000
namespace Go.Proofs.YtckbiimikeiejaaGreatDoor
section
open Go.RowKit Go.Maps
structure Bf where
 nodes:List ByteArray
 devs:List DevP
 step:Int × Int
 method:Int
def Tr:ByteArray:=⟨#[48]⟩
def Fv (f:Bf):Bool:=Bu f.step&&decide (0<f.step.1)&&(decide (f.method=1)||decide (f.method=2))
def Ca (f:Bf):Bool:=decide (1≤f.nodes.length)&&decide (f.nodes.length≤32)&&decide (f.nodes.getD 0 default=Tr)&&decide (f.devs.length≤64)&&decide f.nodes.Nodup
def Cx (ds:List DevP):List ByteArray:=ds.map (·.name)
def Em (f:Bf):Bool:=decide (∀ i,i<f.devs.length→devB f.nodes.length f.devs (f.devs.getD i dev0)=true)
def unk (f:Bf):Int:=(f.nodes.length:Int)-1+nbr f.devs f.devs.length
def Cq (f:Bf):Int :=
 if Fv f&&Ca f&&f.nodes.all D3&&Em f&&decide (Cx f.devs).Nodup then (if unk f≤48 then 0 else 5) else 90
structure FlatAt (w:World) (f:Bf) (A1:Option Addr) (c1:Nat) (A2:Option Addr) (c2:Nat):Prop where
 nodes:Row w (.slice A1 f.nodes.length c1) (strs f.nodes)
 nsz:∀ s∈f.nodes,s.size<4294967281
 devs:DevRow w (.slice A2 f.devs.length c2) f.devs
 s1:I64 f.step.1
 s2:I64 f.step.2
 me:I64 f.method
 n1:f.nodes.length≤1099511627776
 n2:f.devs.length≤1099511627776
theorem FlatAt.more {w w':World} {f:Bf} {A1 A2:Option Addr} {c1 c2:Nat} (h:FlatAt w f A1 c1 A2 c2) (hg:w.grownBy w' none):FlatAt w' f A1 c1 A2 c2 :=
 ⟨h.nodes.more hg,h.nsz,h.devs.more hg,h.s1,h.s2,h.me,h.n1,h.n2⟩
theorem Nz {ds:List DevP} {k:Nat} (h:k<ds.length):Cx (ds.take (k+1))=Cx (ds.take k)++[(ds.getD k dev0).name]:=by
 rw [List.take_succ_eq_append_getElem h,Cx,Cx,List.map_append]
 simp [List.getD,List.getElem?_eq_getElem h]
theorem Mq (l r:List ByteArray):strs (l++r)=strs l++strs r:=by simp [strs]
theorem Qs (ds:List DevP):(Cx ds).length=ds.length:=by simp [Cx]
theorem Jc {w w':World} {base:Nat} {e:TypeId} {size n:Nat} {v:Value} {xs:List Value} (h:w.ownsRow base e size v n xs) (hg:w.grownBy w' none):w'.ownsRow base e size v n xs :=
 h.kept hg (by cases v.ownBlock<;>simp)
theorem Le:(Tryz.prog.info? 9).map (fun i=>(i.zero,i.size,i.bytes))=some (some (.string ByteArray.empty),1,16):=by kernel_rfl
structure FlatBox (w:World) (b:Nat) (f:Bf) (A1:Option Addr) (c1:Nat) (A2:Option Addr) (c2:Nat):Prop where
 c0:w.cell? ⟨b,0,none⟩=some (.slice A1 f.nodes.length c1)
 c1:w.cell? ⟨b,1,none⟩=some (.slice A2 f.devs.length c2)
 c2:w.cell? ⟨b,2,none⟩=some (.int .i64 f.step.1)
 c3:w.cell? ⟨b,3,none⟩=some (.int .i64 f.step.2)
 c4:w.cell? ⟨b,4,none⟩=some (.int .i64 f.method)
theorem FlatBox.of {w:World} {b:Nat} {f:Bf} {A1 A2:Option Addr} {c1 c2:Nat} (h:Blk w b #[.slice A1 f.nodes.length c1,.slice A2 f.devs.length c2,.int .i64 f.step.1,.int .i64 f.step.2,.int .i64 f.method]):FlatBox w b f A1 c1 A2 c2 :=
 ⟨h.cell 0,h.cell 1,h.cell 2,h.cell 3,h.cell 4⟩
theorem FlatBox.more {w w':World} {b:Nat} {f:Bf} {A1 A2:Option Addr} {c1 c2:Nat} (h:FlatBox w b f A1 c1 A2 c2) (hg:w.grownBy w' none):FlatBox w' b f A1 c1 A2 c2 :=
 ⟨Aj hg h.c0 (by simp),Aj hg h.c1 (by simp),Aj hg h.c2 (by simp),Aj hg h.c3 (by simp),Aj hg h.c4 (by simp)⟩
set_option maxRecDepth 100000 in
theorem Dm (w:World) (f:Bf) (A1:Option Addr) (c1:Nat) (A2:Option Addr) (c2:Nat) (hf:FlatAt w f A1 c1 A2 c2) (hG:GlobOK w) :
  Calls Tryz.prog 53 #[.agg #[.slice A1 f.nodes.length c1,.slice A2 f.devs.length c2,.int .i64 f.step.1,.int .i64 f.step.2,.int .i64 f.method]] w fun e w'=>e=.returned (.int .i64 (Cq f))∧w.grownBy w' none:=by
 obtain ⟨R,hR⟩:∃ R,Cq f=R:=⟨_,rfl⟩
 rw [hR]
 have HR:=Ac hR
 clear hR
 have gw:=Af w (.cells #[.slice A1 f.nodes.length c1,.slice A2 f.devs.length c2,.int .i64 f.step.1,.int .i64 f.step.2,.int .i64 f.method] 27) none
 have hB:=FlatBox.of (Blk.new w #[.slice A1 f.nodes.length c1,.slice A2 f.devs.length c2,.int .i64 f.step.1,.int .i64 f.step.2,.int .i64 f.method] 27)
 have hN:=Bd (w.alloc (.cells #[.slice A1 f.nodes.length c1,.slice A2 f.devs.length c2,.int .i64 f.step.1,.int .i64 f.step.2,.int .i64 f.method] 27)) f.step.1 f.step.2 hf.s1.1 hf.s1.2 hf.s2.1 hf.s2.2
 obtain ⟨N,hNN⟩:∃ N,decide (NumOK f.step.1 f.step.2)=N:=⟨_,rfl⟩
 rw [hNN] at hN
 have HN:Hid (Bu f.step=N):=Ac hNN
 have HC:=Ac hN
 have HF:=Ac hf
 have HG:=Ac hG
 clear hN hNN hf hG
 obtain ⟨p0,p1,p2,p3,p4⟩:=hB
 have HB:=Ac (FlatBox.mk p0 p1 p2 p3 p4)
 go_enter Tryz.func53,Tryz.ntmps53
 go_wp2_with fail
 generalize w.alloc (.cells #[.slice A1 f.nodes.length c1,.slice A2 f.devs.length c2,.int .i64 f.step.1,.int .i64 f.step.2,.int .i64 f.method] 27)=wa at *
 generalize w.heap.size=s at *
 refine HC.out.mono ?_
 rintro e w1 ⟨rfl,hg1⟩
 have HB1:=Ac (HB.out.more hg1)
 clear p0 p1 p2 p3 p4
 obtain ⟨p0,p1,p2,p3,p4⟩:=HB1.out
 have HG1:=Ac (Ae gw hg1)
 clear gw hg1 HB HC
 cases hh:Fv f with
 | false =>
  have HH:=Ac hh
  have hfin:R=90:=by rw [←HR.out];unfold Cq;simp [hh]
  have HFIN:=Ac hfin
  clear hfin hh
  cases N with
  | false =>
   go_wp2_with fail
   go_ret
   exact ⟨B9 HFIN.out.symm,HG1.out⟩
  | true =>
   by_cases h1:f.step.1≤0
   ·go_wp2_with fail
    go_ret
    exact ⟨B9 HFIN.out.symm,HG1.out⟩
   ·have m1:(f.method != 1)=true:=by
     rw [bne_iff_ne];intro h;have:=HH.out;simp [Fv,HN.out,h] at this;omega
    have m2:(f.method != 2)=true:=by
     rw [bne_iff_ne];intro h;have:=HH.out;simp [Fv,HN.out,h] at this;omega
    go_wp2_with fail
    go_ret
    exact ⟨B9 HFIN.out.symm,HG1.out⟩
 | true =>
  have hh':=hh
  unfold Fv at hh'
  rw [HN.out] at hh'
  simp only [Bool.and_eq_true,Bool.or_eq_true,decide_eq_true_eq] at hh'
  obtain ⟨⟨hn,hs⟩,hm⟩:=hh'
  have HH:=Ac hh
  subst hn
  have h1:¬ f.step.1≤0:=by omega
  have hmm:((f.method != 1)=false)∨((f.method != 1)=true∧(f.method != 2)=false):=by
   rw [bne_eq_false_iff_eq,bne_iff_ne,bne_eq_false_iff_eq];omega
  clear hh hs hm
  have hrw:∀ w2,w1.grownBy w2 none→FlatAt w2 f A1 c1 A2 c2:=fun w2 h=>HF.out.more (Ae HG1.out h)
  have HRW:=Ac hrw
  have hU:R=(if Ca f&&f.nodes.all D3&&Em f&&decide (Cx f.devs).Nodup then (if unk f≤48 then 0 else 5) else 90):=by rw [←HR.out];unfold Cq;rw [HH.out];rfl
  have HU:=Ac hU
  clear hrw hU HR
  by_cases b1:1≤f.nodes.length
  case neg =>
   have hfin:R=90:=by rw [HU.out];simp [Ca,b1]
   have HFIN:=Ac hfin
   have b1':(f.nodes.length:Int)<1:=by omega
   clear hfin
   rcases hmm with hmm | ⟨hmm,hmm2⟩
   all_goals
    go_wp2_with fail
    go_ret
    exact ⟨B9 HFIN.out.symm,HG1.out⟩
  have b1':¬ (f.nodes.length:Int)<1:=by omega
  by_cases b2:f.nodes.length≤32
  case neg =>
   have hfin:R=90:=by rw [HU.out];simp [Ca,b2]
   have HFIN:=Ac hfin
   have b2':(32:Int)<(f.nodes.length:Int):=by omega
   clear hfin
   rcases hmm with hmm | ⟨hmm,hmm2⟩
   all_goals
    go_wp2_with fail
    go_ret
    exact ⟨B9 HFIN.out.symm,HG1.out⟩
  have b2':¬ (32:Int)<(f.nodes.length:Int):=by omega
  have hn0:∃ b o,A1=some ⟨b,o,none⟩∧w1.cell? ⟨b,o,none⟩=some (.string (f.nodes.getD 0 default)):=by
   have hr:=(HF.out.more HG1.out).nodes
   rcases hr.open with ⟨b,o,c,e,_,_,hc⟩ | ⟨_,_,_,_,_,h0⟩
   ·injection e with e1 e2 e3
    subst e1
    rw [Bt] at hc
    exact ⟨b,o,rfl,(hc 0 (by omega)).trans (I2 _ _ (by omega))⟩
   ·have:=congrArg List.length h0;simp [strs] at this;rw [this] at b1;simp at b1
  obtain ⟨b,o,rfl,q0⟩:=hn0
  generalize hx:f.nodes.getD 0 default=x at *
  have HX:=Ac hx
  clear hx
  have hxz:x=Tr↔x.toList=[48]:=by
   rw [Lib.toList_data]
   constructor
   ·rintro rfl;rfl
   ·intro h
    cases x with | mk a=>cases a with | mk l=>simp at h;subst h;rfl
  have HXZ:=Ac hxz
  clear hxz
  by_cases b3:x.toList=[48]
  case neg =>
   have hfin:R=90:=by rw [HU.out];simp [Ca];intro _ _ h;exact absurd (HXZ.out.1 (by rw [←HX.out];simpa [List.getD] using h)) b3
   have HFIN:=Ac hfin
   have b3':(x.toList==[48])=false:=by rw [beq_eq_false_iff_ne];exact b3
   clear hfin
   rcases hmm with hmm | ⟨hmm,hmm2⟩
   all_goals
    go_wp2_with fail
    go_ret
    exact ⟨B9 HFIN.out.symm,HG1.out⟩
  have b3':(x.toList==[48])=true:=by rw [beq_iff_eq];exact b3
  have HB3:=Ac b3
  clear b3
  by_cases b4:f.devs.length≤64
  case neg =>
   have hfin:R=90:=by rw [HU.out];simp [Ca,b4]
   have HFIN:=Ac hfin
   have b4':(64:Int)<(f.devs.length:Int):=by omega
   clear hfin
   rcases hmm with hmm | ⟨hmm,hmm2⟩
   all_goals
    go_wp2_with fail
    go_ret
    exact ⟨B9 HFIN.out.symm,HG1.out⟩
  have b4':¬ (64:Int)<(f.devs.length:Int):=by omega
  have hT:=Mt w1 (.slice (some ⟨b,o,none⟩) f.nodes.length c1) f.nodes (HRW.out w1 (Al _ _)).nodes (fun s hs=>by have:=HF.out.nsz s hs;omega) (by omega)
  obtain ⟨T,hTT⟩:∃ T,decide (¬ f.nodes.Nodup)=T:=⟨_,rfl⟩
  rw [hTT] at hT
  have HT:=Ac hT
  have HTT:=Ac hTT
  clear hT hTT
  cases T with
  | true =>
   have hfin:R=90:=by
    have:=of_decide_eq_true HTT.out
    rw [HU.out];simp [Ca,this]
   have HFIN:=Ac hfin
   clear hfin
   rcases hmm with hmm | ⟨hmm,hmm2⟩
   all_goals
    go_wp2_with fail
    refine HT.out.mono ?_
    rintro e w2 ⟨rfl,hg2⟩
    go_wp2_with fail
    go_ret
    exact ⟨B9 HFIN.out.symm,Ae HG1.out hg2⟩
  | false =>
   have hU2:R=(if f.nodes.all D3&&Em f&&decide (Cx f.devs).Nodup then (if unk f≤48 then 0 else 5) else 90):=by
    have h5:=of_decide_eq_false HTT.out
    have h3:f.nodes.getD 0 default=Tr:=by rw [HX.out];exact HXZ.out.2 HB3.out
    rw [HU.out]
    have:Ca f=true:=by
     unfold Ca
     rw [h3]
     simp only [Decidable.not_not] at h5
     simp [b1,b2,b4,h5]
    rw [this];simp only [Bool.true_and]
   have HU2:=Ac hU2
   clear hU2 HU b1 b4 HX HXZ HTT HH HN
   rcases hmm with hmm | ⟨hmm,hmm2⟩
   all_goals
    go_wp2_with fail
    refine HT.out.mono ?_
    rintro e w2 ⟨rfl,hg2⟩
    have HB2:=Ac (HB1.out.more hg2)
    clear p0 p1 p2 p3 p4 q0
    obtain ⟨p0,p1,p2,p3,p4⟩:=HB2.out
    have HG2:=Ac (Ae HG1.out hg2)
    have HF2:=Ac (HF.out.more (Ae HG1.out hg2))
    clear hg2 HT HRW
    go_wp2_with fail
    go_loopw [61] (fun i wr=>∃ k:Nat,k≤f.nodes.length∧i=.int .i64 k∧w2.grownBy wr none∧Hid (∀ t,t<k→D3 (f.nodes.getD t default)=true)) (fun i _=>(f.nodes.length-intOf i).toNat)
    case atStart=>exact ⟨0,by omega,rfl,Al _ _,Ac (fun t ht=>by omega)⟩
    case round =>
     obtain ⟨k,hk,rfl,hg,hb⟩:=hrel
     by_cases hlt:k<f.nodes.length
     ·have hcell:wr.cell? ⟨b,o+k,none⟩=some (.string (f.nodes.getD k default)):=by
       rcases (HF2.out.more hg).nodes.open with ⟨b',o',c,e,_,_,hc⟩ | ⟨_,_,_,_,_,h0⟩
       ·injection e with e1 e2 e3
        injection e1 with e1
        injection e1 with e4 e5
        subst e4 e5
        rw [Bt] at hc
        exact (hc k hlt).trans (I2 _ _ hlt)
       ·have:=congrArg List.length h0;rw [Bt] at this;simp at this;rw [this] at hlt;simp at hlt
      have hsz:(f.nodes.getD k default).size<4294967281:=HF.out.nsz _ (by simp [List.getD,List.getElem?_eq_getElem hlt])
      have hgl:=HG.out.more (Ae HG2.out hg)
      generalize hx1:f.nodes.getD k default=x1 at *
      have HX1:=Ac hx1
      clear hx1
      go_wp2_with fail
      refine (Mh wr x1 hgl hsz).mono ?_
      rintro e w3 ⟨rfl,hg3⟩
      cases hl:D3 x1 with
      | false =>
       have hfin:R=90:=by
        have:f.nodes.all D3=false:=by
         rw [List.all_eq_false]
         exact ⟨x1,by rw [←HX1.out];simp [List.getD,List.getElem?_eq_getElem hlt],by simp [hl]⟩
        rw [HU2.out,this];rfl
       have HFIN:=Ac hfin
       clear hfin hl
       go_wp2_with fail
       go_ret
       exact ⟨B9 HFIN.out.symm,Ae HG2.out (Ae hg hg3)⟩
      | true =>
       have HL:=Ac hl
       clear hl
       go_wp2_with fail
       exact ⟨⟨k+1,by omega,by go_num,Ae hg hg3,Ac (fun t ht=>by
        by_cases htk:t=k
        ·subst htk;rw [HX1.out];exact HL.out
        ·exact hb.out t (by omega))⟩,by simp [intOf];omega⟩
     ·obtain rfl:k=f.nodes.length:=by omega
      have hU3:R=(if Em f&&decide (Cx f.devs).Nodup then (if unk f≤48 then 0 else 5) else 90):=by
       have:f.nodes.all D3=true:=by
        rw [List.all_eq_true]
        intro x hx
        obtain ⟨j,hj,rfl⟩:=List.mem_iff_getElem.1 hx
        have:=hb.out j hj
        rwa [show f.nodes.getD j default=f.nodes[j] by simp [List.getD,List.getElem?_eq_getElem hj]] at this
       rw [HU2.out,this];simp only [Bool.true_and]
      have HU3:=Ac hU3
      have HB3':=Ac (HB2.out.more hg)
      have HG3:=Ac (Ae HG2.out hg)
      have HF3:=Ac (HF2.out.more hg)
      clear hU3 hb hk hlt hg HU2 HB2 HF2 HB1 HB3 HG1 p0 p1 p2 p3 p4 b1' b2' b3' b4'
      obtain ⟨wo,rfl⟩:∃ wo:World,wo=wr:=⟨_,rfl⟩
      obtain ⟨p0,p1,p2,p3,p4⟩:=HB3'.out
      go_wp2_with fail
      go_loopw [5,72] (fun v i wr=>∃ k:Nat,k≤f.devs.length∧i=.int .i64 k∧wr.ownsRow wo.heap.size 9 1 v k (strs (Cx (f.devs.take k)))∧wo.grownBy wr none∧Hid (∀ t,t<k→devB f.nodes.length f.devs (f.devs.getD t dev0)=true)) (fun _ i _=>(f.devs.length-intOf i).toNat)
      case atStart=>exact ⟨0,by omega,rfl,World.ownsRow_nil _ _ _ _,Al _ _,Ac (fun t ht=>by omega)⟩
      case round =>
       obtain ⟨k,hk,rfl,hown,hg,hb⟩:=hrel
       by_cases hlt:k<f.devs.length
       ·obtain ⟨b2,o2,An,cn,Av,cv,As,cs,Ag,cg,Am,cm,rfl,hat,hc⟩:=(HF3.out.more hg).devs.at2 hlt
        have hnsu:=Nz hlt
        have hdrow:=(HF3.out.more hg).devs
        have hgl:=HG.out.more (Ae HG3.out hg)
        obtain ⟨m0,m1,m2,m3,m4⟩:=HB3'.out.more hg
        generalize hd:f.devs.getD k dev0=d at *
        have HD:=Ac hd
        obtain ⟨q0,q1,q2,q3,q4,q5,q6,q7,q8,q9,q10,q11,q12⟩:=hc
        have ga:=Af wr (.cells #[.int .u8 d.kind,.string d.name,.slice An d.nodes.length cn,.int .i64 d.ref,.int .i64 d.val.1,.int .i64 d.val.2,.int .i64 d.wkind,.slice Av d.wvals.length cv,.slice As d.wsteps.length cs,.string d.mname,.int .u8 d.mkind,.slice Ag d.mg.length cg,.slice Am d.mv.length cm] 89) none
        have hDB:=DevBox.of (Blk.new wr #[.int .u8 d.kind,.string d.name,.slice An d.nodes.length cn,.int .i64 d.ref,.int .i64 d.val.1,.int .i64 d.val.2,.int .i64 d.wkind,.slice Av d.wvals.length cv,.slice As d.wsteps.length cs,.string d.mname,.int .u8 d.mkind,.slice Ag d.mg.length cg,.slice Am d.mv.length cm] 89)
        have HDB:=Ac hDB
        obtain ⟨r0,r1,r2,r3,r4,r5,r6,r7,r8,r9,r10,r11,r12⟩:=hDB
        have m0:=Aj ga m0 (by simp)
        have m1:=Aj ga m1 (by simp)
        have m2:=Aj ga m2 (by simp)
        have m3:=Aj ga m3 (by simp)
        have m4:=Aj ga m4 (by simp)
        have hRC:=Sw (wr.alloc (.cells #[.int .u8 d.kind,.string d.name,.slice An d.nodes.length cn,.int .i64 d.ref,.int .i64 d.val.1,.int .i64 d.val.2,.int .i64 d.wkind,.slice Av d.wvals.length cv,.slice As d.wsteps.length cs,.string d.mname,.int .u8 d.mkind,.slice Ag d.mg.length cg,.slice Am d.mv.length cm] 89)) (some ⟨b,o,none⟩) c1 (some ⟨b2,o2,none⟩) c2 f.step.1 f.step.2 f.method f.nodes f.devs d An cn Av cv As cs Ag cg Am cm HF.out.n1 HF.out.n2 (hdrow.more ga) (hat.more ga) (hgl.more ga)
        have HRC:=Ac hRC
        have HNS:=Ac hnsu
        have hown2:=hown.alloc (.cells #[.int .u8 d.kind,.string d.name,.slice An d.nodes.length cn,.int .i64 d.ref,.int .i64 d.val.1,.int .i64 d.val.2,.int .i64 d.wkind,.slice Av d.wvals.length cv,.slice As d.wsteps.length cs,.string d.mname,.int .u8 d.mkind,.slice Ag d.mg.length cg,.slice Am d.mv.length cm] 89)
        clear hd hRC hnsu hdrow hgl hat
        go_wp2_with fail
        refine HRC.out.mono ?_
        rintro e w3 ⟨rfl,hg3⟩
        cases hdb:devB f.nodes.length f.devs d with
        | false =>
         have hfin:R=90:=by
          have:Em f=false:=by
           unfold Em
           rw [decide_eq_false_iff_not]
           intro h
           have:=h k hlt
           rw [HD.out,hdb] at this
           cases this
          rw [HU3.out,this];rfl
         have HFIN:=Ac hfin
         clear hfin hdb
         go_wp2_with fail
         go_ret
         exact ⟨B9 HFIN.out.symm,Ae HG3.out (Ae hg (Ae ga hg3))⟩
        | true =>
         have HDBT:=Ac hdb
         clear hdb r0 r1 r2 r3 r4 r5 r6 r7 r8 r9 r10 r11 r12 q0 q1 q2 q3 q4 q5 q6 q7 q8 q9 q10 q11 q12 m0 m1 m2 m3 m4
         have r1:=Aj hg3 HDB.out.c1 (by simp)
         have hsb:=(Ae hg (Ae ga hg3)).size
         have hown3:=Jc hown2 hg3
         go_wp2_with (first
          | (at_builtin;refine Fp wo.heap.size rfl (.tmp 80) (.tmp 83) 22 9 (.string ByteArray.empty) 1 16 rfl Tryz.underlying22 Le rfl (by omega) (by omega) u5 k (strs (Cx (f.devs.take k))) #[.string d.name] (by rfl) hown3 (by rfl) rfl (by simp [Value.oneCell']) (by omega) (by omega) ?_;intro v1 w4 hown4 hg4 hat4)
          | go_in)
         go_roundw
         case rel=>exact ⟨k+1,by omega,by go_num,by rw [HNS.out,Mq];exact hown4,Ep (Ae hg (Ae ga hg3)) hg4 (D4 hown3),Ac (fun t ht=>by
          by_cases htk:t=k
          ·subst htk;rw [HD.out];exact HDBT.out
          ·exact hb.out t (by omega))⟩
         case measure=>simp [intOf];omega
       ·obtain rfl:k=f.devs.length:=by omega
        have hdb:Em f=true:=by unfold Em;rw [decide_eq_true_iff];exact hb.out
        have hU4:R=(if decide (Cx f.devs).Nodup then (if unk f≤48 then 0 else 5) else 90):=by rw [HU3.out,hdb];simp only [Bool.true_and]
        have HU4:=Ac hU4
        have hr:=E5 hown
        rw [List.take_length] at hr
        have hnz:∀ s∈Cx f.devs,s.size≤9223372036854775807:=by
         intro s hs
         unfold Cx at hs
         rw [List.mem_map] at hs
         obtain ⟨d,hd,rfl⟩:=hs
         obtain ⟨j,hj,rfl⟩:=List.mem_iff_getElem.1 hd
         obtain ⟨_,_,_,_,_,_,_,_,_,_,_,_,_,hat,_⟩:=(HF3.out.more hg).devs.at2 hj
         have:=hat.name
         rw [show f.devs.getD j dev0=f.devs[j] by simp [List.getD,List.getElem?_eq_getElem hj]] at this
         omega
        have hT:=Mt wr _ (Cx f.devs) hr hnz (by rw [Qs];omega)
        obtain ⟨T,hTT⟩:∃ T,decide (¬ (Cx f.devs).Nodup)=T:=⟨_,rfl⟩
        rw [hTT] at hT
        have HT2:=Ac hT
        have HTT:=Ac hTT
        have HG4:=Ac (Ae HG3.out hg)
        have HF4:=Ac (HF3.out.more hg)
        have HB4:=Ac (HB3'.out.more hg)
        clear hT hTT hnz hr hU4 hdb hown hb hk hlt hg HU3 p0 p1 p2 p3 p4
        go_wp2_with fail
        refine HT2.out.mono ?_
        rintro e w3 ⟨rfl,hg3⟩
        cases T with
        | true =>
         have hfin:R=90:=by
          have:=of_decide_eq_true HTT.out
          rw [HU4.out];simp [this]
         have HFIN:=Ac hfin
         clear hfin
         go_wp2_with fail
         go_ret
         exact ⟨B9 HFIN.out.symm,Ae HG4.out hg3⟩
        | false =>
         have hfin:R=(if unk f≤48 then 0 else 5):=by
          have:=of_decide_eq_false HTT.out
          simp only [Decidable.not_not] at this
          rw [HU4.out];simp [this]
         obtain ⟨p0,p1,p2,p3,p4⟩:=HB4.out.more hg3
         have hcc:=Mg w3 _ _ f.step.1 f.step.2 f.method f.nodes f.devs (HF4.out.more hg3).nodes (HF4.out.more hg3).devs HF.out.n1 HF.out.n2
         have hun:unk f=(f.nodes.length:Int)-1+nbr f.devs f.devs.length:=rfl
         rw [←hun] at hcc
         clear hun
         generalize unk f=U at *
         have HCC:=Ac hcc
         have HFIN:=Ac hfin
         clear hcc hfin
         go_wp2_with fail
         refine HCC.out.mono ?_
         rintro e w4 ⟨v,rfl,hrv,hfv,hg4⟩
         by_cases h48:U≤48
         ·have h48':¬ 48<U:=by omega
          go_wp2_with fail
          go_ret
          exact ⟨B9 (by rw [HFIN.out,if_pos h48]),Ae HG4.out (Ae hg3 hg4)⟩
         ·have h48':48<U:=by omega
          go_wp2_with fail
          go_ret
          exact ⟨B9 (by rw [HFIN.out,if_neg (by omega)]),Ae HG4.out (Ae hg3 hg4)⟩
end
end Go.Proofs.YtckbiimikeiejaaGreatDoor
