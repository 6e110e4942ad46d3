/- FlatF RdF. -/
import Derived.Test.YtmfmfpmkgmkgiaaGreatDoorMai
import Derived.Test.YtmfmfpmkgmkgiaaGreatDoorRows
import Derived.Test.YtmfmfpmkgmkgiaaGreatDoorMah
set_option linter.unusedVariables false
set_option linter.unusedSimpArgs false
set_option maxHeartbeats 40000000
namespace Go.Proofs.YtmfmfpmkgmkgiaaGreatDoor
section
open Go.RowKit Go.Maps
structure Bf where
 nodes:List ByteArray
 devs:List DevP
 step:Int × Int
 method:Int
def Tr:ByteArray:=⟨#[48]⟩
def Fv (f:Bf):Bool:=Bu f.step&&decide (0<f.step.1)&&(decide (f.method=1)||decide (f.method=2))
def Ca (f:Bf):Bool:=decide (1≤f.nodes.length)&&decide (f.nodes.length≤32)&&decide (f.nodes.getD 0 default=Tr)&&decide (f.devs.length≤64)&&decide f.nodes.Nodup
def Cx (ds:List DevP):List ByteArray:=ds.map (·.name)
def Em (f:Bf):Bool:=decide (∀ i,i<f.devs.length→devB f.nodes.length f.devs (f.devs.getD i dev0)=true)
def unk (f:Bf):Int:=(f.nodes.length:Int)-1+nbr f.devs f.devs.length
def Cq (f:Bf):Int :=
 if Fv f&&Ca f&&f.nodes.all D3&&Em f&&decide (Cx f.devs).Nodup then (if unk f≤48 then 0 else 5) else 90
structure FlatAt (w:World) (f:Bf) (A1:Option Addr) (c1:Nat) (A2:Option Addr) (c2:Nat):Prop where
 nodes:Row w (.slice A1 f.nodes.length c1) (strs f.nodes)
 nsz:∀ s∈f.nodes,s.size<4294967281
 devs:DevRow w (.slice A2 f.devs.length c2) f.devs
 s1:I64 f.step.1
 s2:I64 f.step.2
 me:I64 f.method
 n1:f.nodes.length≤1099511627776
 n2:f.devs.length≤1099511627776
theorem FlatAt.more {w w':World} {f:Bf} {A1 A2:Option Addr} {c1 c2:Nat} (h:FlatAt w f A1 c1 A2 c2) (hg:w.grownBy w' none):FlatAt w' f A1 c1 A2 c2 :=
 ⟨h.nodes.more hg,h.nsz,h.devs.more hg,h.s1,h.s2,h.me,h.n1,h.n2⟩
theorem Nz {ds:List DevP} {k:Nat} (h:k<ds.length):Cx (ds.take (k+1))=Cx (ds.take k)++[(ds.getD k dev0).name]:=by
 rw [List.take_succ_eq_append_getElem h,Cx,Cx,List.map_append]
 simp [List.getD,List.getElem?_eq_getElem h]
theorem Mq (l r:List ByteArray):strs (l++r)=strs l++strs r:=by simp [strs]
theorem Qs (ds:List DevP):(Cx ds).length=ds.length:=by simp [Cx]
theorem Jc {w w':World} {base:Nat} {e:TypeId} {size n:Nat} {v:Value} {xs:List Value} (h:w.ownsRow base e size v n xs) (hg:w.grownBy w' none):w'.ownsRow base e size v n xs :=
 h.kept hg (by cases v.ownBlock<;>simp)
theorem Le:(Tryz.prog.info? 9).map (fun i=>(i.zero,i.size,i.bytes))=some (some (.string ByteArray.empty),1,16):=by kernel_rfl
structure FlatBox (w:World) (b:Nat) (f:Bf) (A1:Option Addr) (c1:Nat) (A2:Option Addr) (c2:Nat):Prop where
 c0:w.cell? ⟨b,0,none⟩=some (.slice A1 f.nodes.length c1)
 c1:w.cell? ⟨b,1,none⟩=some (.slice A2 f.devs.length c2)
 c2:w.cell? ⟨b,2,none⟩=some (.int .i64 f.step.1)
 c3:w.cell? ⟨b,3,none⟩=some (.int .i64 f.step.2)
 c4:w.cell? ⟨b,4,none⟩=some (.int .i64 f.method)
theorem FlatBox.of {w:World} {b:Nat} {f:Bf} {A1 A2:Option Addr} {c1 c2:Nat} (h:Blk w b #[.slice A1 f.nodes.length c1,.slice A2 f.devs.length c2,.int .i64 f.step.1,.int .i64 f.step.2,.int .i64 f.method]):FlatBox w b f A1 c1 A2 c2 :=
 ⟨h.cell 0,h.cell 1,h.cell 2,h.cell 3,h.cell 4⟩
theorem FlatBox.more {w w':World} {b:Nat} {f:Bf} {A1 A2:Option Addr} {c1 c2:Nat} (h:FlatBox w b f A1 c1 A2 c2) (hg:w.grownBy w' none):FlatBox w' b f A1 c1 A2 c2 :=
 ⟨Aj hg h.c0 (by simp),Aj hg h.c1 (by simp),Aj hg h.c2 (by simp),Aj hg h.c3 (by simp),Aj hg h.c4 (by simp)⟩
set_option maxRecDepth 100000 in
theorem Dm (w:World) (f:Bf) (A1:Option Addr) (c1:Nat) (A2:Option Addr) (c2:Nat) (hf:FlatAt w f A1 c1 A2 c2) (hG:GlobOK w) :
  Calls Tryz.prog 40 #[.agg #[.slice A1 f.nodes.length c1,.slice A2 f.devs.length c2,.int .i64 f.step.1,.int .i64 f.step.2,.int .i64 f.method]] w fun e w'=>e=.returned (.int .i64 (Cq f))∧w.grownBy w' none:=by
 obtain ⟨R,hR⟩:∃ R,Cq f=R:=⟨_,rfl⟩
 rw [hR]
 have HR:=Ac hR
 clear hR
 have gw:=Af w (.cells #[.slice A1 f.nodes.length c1,.slice A2 f.devs.length c2,.int .i64 f.step.1,.int .i64 f.step.2,.int .i64 f.method] 27) none
 have hB:=FlatBox.of (Blk.new w #[.slice A1 f.nodes.length c1,.slice A2 f.devs.length c2,.int .i64 f.step.1,.int .i64 f.step.2,.int .i64 f.method] 27)
 have hN:=Bd (w.alloc (.cells #[.slice A1 f.nodes.length c1,.slice A2 f.devs.length c2,.int .i64 f.step.1,.int .i64 f.step.2,.int .i64 f.method] 27)) f.step.1 f.step.2 hf.s1.1 hf.s1.2 hf.s2.1 hf.s2.2
 obtain ⟨N,hNN⟩:∃ N,decide (NumOK f.step.1 f.step.2)=N:=⟨_,rfl⟩
 rw [hNN] at hN
 have HN:Hid (Bu f.step=N):=Ac hNN
 have HC:=Ac hN
 have HF:=Ac hf
 have HG:=Ac hG
 clear hN hNN hf hG
 obtain ⟨p0,p1,p2,p3,p4⟩:=hB
 have HB:=Ac (FlatBox.mk p0 p1 p2 p3 p4)
 go_enter Tryz.func40,Tryz.ntmps40
 go_wp2_with fail
 generalize w.alloc (.cells #[.slice A1 f.nodes.length c1,.slice A2 f.devs.length c2,.int .i64 f.step.1,.int .i64 f.step.2,.int .i64 f.method] 27)=wa at *
 generalize w.heap.size=s at *
 refine HC.out.mono ?_
 rintro e w1 ⟨rfl,hg1⟩
 have HB1:=Ac (HB.out.more hg1)
 clear p0 p1 p2 p3 p4
 obtain ⟨p0,p1,p2,p3,p4⟩:=HB1.out
 have HG1:=Ac (Ae gw hg1)
 clear gw hg1 HB HC
 cases hh:Fv f with
 | false =>
  have HH:=Ac hh
  have hfin:R=90:=by rw [←HR.out];unfold Cq;simp [hh]
  have HFIN:=Ac hfin
  clear hfin hh
  cases N with
  | false =>
   go_wp2_with fail
   go_ret
   exact ⟨B9 HFIN.out.symm,HG1.out⟩
  | true =>
   by_cases h1:f.step.1≤0
   ·go_wp2_with fail
    go_ret
    exact ⟨B9 HFIN.out.symm,HG1.out⟩
   ·have m1:(f.method != 1)=true:=by
     rw [bne_iff_ne];intro h;have:=HH.out;simp [Fv,HN.out,h] at this;omega
    have m2:(f.method != 2)=true:=by
     rw [bne_iff_ne];intro h;have:=HH.out;simp [Fv,HN.out,h] at this;omega
    go_wp2_with fail
    go_ret
    exact ⟨B9 HFIN.out.symm,HG1.out⟩
 | true =>
  have hh':=hh
  unfold Fv at hh'
  rw [HN.out] at hh'
  simp only [Bool.and_eq_true,Bool.or_eq_true,decide_eq_true_eq] at hh'
  obtain ⟨⟨hn,hs⟩,hm⟩:=hh'
  have HH:=Ac hh
  subst hn
  have h1:¬ f.step.1≤0:=by omega
  have hmm:((f.method != 1)=false)∨((f.method != 1)=true∧(f.method != 2)=false):=by
   rw [bne_eq_false_iff_eq,bne_iff_ne,bne_eq_false_iff_eq];omega
  clear hh hs hm
  have hrw:∀ w2,w1.grownBy w2 none→FlatAt w2 f A1 c1 A2 c2:=fun w2 h=>HF.out.more (Ae HG1.out h)
  have HRW:=Ac hrw
  have hU:R=(if Ca f&&f.nodes.all D3&&Em f&&decide (Cx f.devs).Nodup then (if unk f≤48 then 0 else 5) else 90):=by rw [←HR.out];unfold Cq;rw [HH.out];rfl
  have HU:=Ac hU
  clear hrw hU HR
  by_cases b1:1≤f.nodes.length
  case neg =>
   have hfin:R=90:=by rw [HU.out];simp [Ca,b1]
   have HFIN:=Ac hfin
   have b1':(f.nodes.length:Int)<1:=by omega
   clear hfin
   rcases hmm with hmm | ⟨hmm,hmm2⟩
   all_goals
    go_wp2_with fail
    go_ret
    exact ⟨B9 HFIN.out.symm,HG1.out⟩
  have b1':¬ (f.nodes.length:Int)<1:=by omega
  by_cases b2:f.nodes.length≤32
  case neg =>
   have hfin:R=90:=by rw [HU.out];simp [Ca,b2]
   have HFIN:=Ac hfin
   have b2':(32:Int)<(f.nodes.length:Int):=by omega
   clear hfin
   rcases hmm with hmm | ⟨hmm,hmm2⟩
   all_goals
    go_wp2_with fail
    go_ret
    exact ⟨B9 HFIN.out.symm,HG1.out⟩
  have b2':¬ (32:Int)<(f.nodes.length:Int):=by omega
  have hn0:∃ b o,A1=some ⟨b,o,none⟩∧w1.cell? ⟨b,o,none⟩=some (.string (f.nodes.getD 0 default)):=by
   have hr:=(HF.out.more HG1.out).nodes
   rcases hr.open with ⟨b,o,c,e,_,_,hc⟩ | ⟨_,_,_,_,_,h0⟩
   ·injection e with e1 e2 e3
    subst e1
    rw [Bt] at hc
    exact ⟨b,o,rfl,(hc 0 (by omega)).trans (I2 _ _ (by omega))⟩
   ·have:=congrArg List.length h0;simp [strs] at this;rw [this] at b1;simp at b1
  obtain ⟨b,o,rfl,q0⟩:=hn0
  generalize hx:f.nodes.getD 0 default=x at *
  have HX:=Ac hx
  clear hx
  have hxz:x=Tr↔x.toList=[48]:=by
   rw [Lib.toList_data]
   constructor
   ·rintro rfl;rfl
   ·intro h
    cases x with | mk a=>cases a with | mk l=>simp at h;subst h;rfl
  have HXZ:=Ac hxz
  clear hxz
  by_cases b3:x.toList=[48]
  case neg =>
   have hfin:R=90:=by rw [HU.out];simp [Ca];intro _ _ h;exact absurd (HXZ.out.1 (by rw [←HX.out];simpa [List.getD] using h)) b3
   have HFIN:=Ac hfin
   have b3':(x.toList==[48])=false:=by rw [beq_eq_false_iff_ne];exact b3
   clear hfin
   rcases hmm with hmm | ⟨hmm,hmm2⟩
   all_goals
    go_wp2_with fail
    go_ret
    exact ⟨B9 HFIN.out.symm,HG1.out⟩
  have b3':(x.toList==[48])=true:=by rw [beq_iff_eq];exact b3
  have HB3:=Ac b3
  clear b3
  by_cases b4:f.devs.length≤64
  case neg =>
   have hfin:R=90:=by rw [HU.out];simp [Ca,b4]
   have HFIN:=Ac hfin
   have b4':(64:Int)<(f.devs.length:Int):=by omega
   clear hfin
   rcases hmm with hmm | ⟨hmm,hmm2⟩
   all_goals
    go_wp2_with fail
    go_ret
    exact ⟨B9 HFIN.out.symm,HG1.out⟩
  have b4':¬ (64:Int)<(f.devs.length:Int):=by omega
  have hT:=Mt w1 (.slice (some ⟨b,o,none⟩) f.nodes.length c1) f.nodes (HRW.out w1 (Al _ _)).nodes (fun s hs=>by have:=HF.out.nsz s hs;omega) (by omega)
  obtain ⟨T,hTT⟩:∃ T,decide (¬ f.nodes.Nodup)=T:=⟨_,rfl⟩
  rw [hTT] at hT
  have HT:=Ac hT
  have HTT:=Ac hTT
  clear hT hTT
  cases T with
  | true =>
   have hfin:R=90:=by
    have:=of_decide_eq_true HTT.out
    rw [HU.out];simp [Ca,this]
   have HFIN:=Ac hfin
   clear hfin
   rcases hmm with hmm | ⟨hmm,hmm2⟩
   all_goals
    go_wp2_with fail
    refine HT.out.mono ?_
    rintro e w2 ⟨rfl,hg2⟩
    go_wp2_with fail
    go_ret
    exact ⟨B9 HFIN.out.symm,Ae HG1.out hg2⟩
  | false =>
   have hU2:R=(if f.nodes.all D3&&Em f&&decide (Cx f.devs).Nodup then (if unk f≤48 then 0 else 5) else 90):=by
    have h5:=of_decide_eq_false HTT.out
    have h3:f.nodes.getD 0 default=Tr:=by rw [HX.out];exact HXZ.out.2 HB3.out
    rw [HU.out]
    have:Ca f=true:=by
     unfold Ca
     rw [h3]
     simp only [Decidable.not_not] at h5
     simp [b1,b2,b4,h5]
    rw [this];simp only [Bool.true_and]
   have HU2:=Ac hU2
   clear hU2 HU b1 b4 HX HXZ HTT HH HN
   rcases hmm with hmm | ⟨hmm,hmm2⟩
   all_goals
    go_wp2_with fail
    refine HT.out.mono ?_
    rintro e w2 ⟨rfl,hg2⟩
    have HB2:=Ac (HB1.out.more hg2)
    clear p0 p1 p2 p3 p4 q0
    obtain ⟨p0,p1,p2,p3,p4⟩:=HB2.out
    have HG2:=Ac (Ae HG1.out hg2)
    have HF2:=Ac (HF.out.more (Ae HG1.out hg2))
    clear hg2 HT HRW
    go_wp2_with fail
    go_loopw [61] (fun i wr=>∃ k:Nat,k≤f.nodes.length∧i=.int .i64 k∧w2.grownBy wr none∧Hid (∀ t,t<k→D3 (f.nodes.getD t default)=true)) (fun i _=>(f.nodes.length-intOf i).toNat)
    case atStart=>exact ⟨0,by omega,rfl,Al _ _,Ac (fun t ht=>by omega)⟩
    case round =>
     obtain ⟨k,hk,rfl,hg,hb⟩:=hrel
     by_cases hlt:k<f.nodes.length
     ·have hcell:wr.cell? ⟨b,o+k,none⟩=some (.string (f.nodes.getD k default)):=by
       rcases (HF2.out.more hg).nodes.open with ⟨b',o',c,e,_,_,hc⟩ | ⟨_,_,_,_,_,h0⟩
       ·injection e with e1 e2 e3
        injection e1 with e1
        injection e1 with e4 e5
        subst e4 e5
        rw [Bt] at hc
        exact (hc k hlt).trans (I2 _ _ hlt)
       ·have:=congrArg List.length h0;rw [Bt] at this;simp at this;rw [this] at hlt;simp at hlt
      have hsz:(f.nodes.getD k default).size<4294967281:=HF.out.nsz _ (by simp [List.getD,List.getElem?_eq_getElem hlt])
      have hgl:=HG.out.more (Ae HG2.out hg)
      generalize hx1:f.nodes.getD k default=x1 at *
      have HX1:=Ac hx1
      clear hx1
      go_wp2_with fail
      refine (Mh wr x1 hgl hsz).mono ?_
      rintro e w3 ⟨rfl,hg3⟩
      cases hl:D3 x1 with
      | false =>
       have hfin:R=90:=by
        have:f.nodes.all D3=false:=by
         rw [List.all_eq_false]
         exact ⟨x1,by rw [←HX1.out];simp [List.getD,List.getElem?_eq_getElem hlt],by simp [hl]⟩
        rw [HU2.out,this];rfl
       have HFIN:=Ac hfin
       clear hfin hl
       go_wp2_with fail
       go_ret
       exact ⟨B9 HFIN.out.symm,Ae HG2.out (Ae hg hg3)⟩
      | true =>
       have HL:=Ac hl
       clear hl
       go_wp2_with fail
       exact ⟨⟨k+1,by omega,by go_num,Ae hg hg3,Ac (fun t ht=>by
        by_cases htk:t=k
        ·subst htk;rw [HX1.out];exact HL.out
        ·exact hb.out t (by omega))⟩,by simp [intOf];omega⟩
     ·obtain rfl:k=f.nodes.length:=by omega
      have hU3:R=(if Em f&&decide (Cx f.devs).Nodup then (if unk f≤48 then 0 else 5) else 90):=by
       have:f.nodes.all D3=true:=by
        rw [List.all_eq_true]
        intro x hx
        obtain ⟨j,hj,rfl⟩:=List.mem_iff_getElem.1 hx
        have:=hb.out j hj
        rwa [show f.nodes.getD j default=f.nodes[j] by simp [List.getD,List.getElem?_eq_getElem hj]] at this
       rw [HU2.out,this];simp only [Bool.true_and]
      have HU3:=Ac hU3
      have HB3':=Ac (HB2.out.more hg)
      have HG3:=Ac (Ae HG2.out hg)
      have HF3:=Ac (HF2.out.more hg)
      clear hU3 hb hk hlt hg HU2 HB2 HF2 HB1 HB3 HG1 p0 p1 p2 p3 p4 b1' b2' b3' b4'
      obtain ⟨wo,rfl⟩:∃ wo:World,wo=wr:=⟨_,rfl⟩
      obtain ⟨p0,p1,p2,p3,p4⟩:=HB3'.out
      go_wp2_with fail
      go_loopw [5,72] (fun v i wr=>∃ k:Nat,k≤f.devs.length∧i=.int .i64 k∧wr.ownsRow wo.heap.size 9 1 v k (strs (Cx (f.devs.take k)))∧wo.grownBy wr none∧Hid (∀ t,t<k→devB f.nodes.length f.devs (f.devs.getD t dev0)=true)) (fun _ i _=>(f.devs.length-intOf i).toNat)
      case atStart=>exact ⟨0,by omega,rfl,World.ownsRow_nil _ _ _ _,Al _ _,Ac (fun t ht=>by omega)⟩
      case round =>
       obtain ⟨k,hk,rfl,hown,hg,hb⟩:=hrel
       by_cases hlt:k<f.devs.length
       ·obtain ⟨b2,o2,An,cn,Av,cv,As,cs,Ag,cg,Am,cm,rfl,hat,hc⟩:=(HF3.out.more hg).devs.at2 hlt
        have hnsu:=Nz hlt
        have hdrow:=(HF3.out.more hg).devs
        have hgl:=HG.out.more (Ae HG3.out hg)
        obtain ⟨m0,m1,m2,m3,m4⟩:=HB3'.out.more hg
        generalize hd:f.devs.getD k dev0=d at *
        have HD:=Ac hd
        obtain ⟨q0,q1,q2,q3,q4,q5,q6,q7,q8,q9,q10,q11,q12⟩:=hc
        have ga:=Af wr (.cells #[.int .u8 d.kind,.string d.name,.slice An d.nodes.length cn,.int .i64 d.ref,.int .i64 d.val.1,.int .i64 d.val.2,.int .i64 d.wkind,.slice Av d.wvals.length cv,.slice As d.wsteps.length cs,.string d.mname,.int .u8 d.mkind,.slice Ag d.mg.length cg,.slice Am d.mv.length cm] 89) none
        have hDB:=DevBox.of (Blk.new wr #[.int .u8 d.kind,.string d.name,.slice An d.nodes.length cn,.int .i64 d.ref,.int .i64 d.val.1,.int .i64 d.val.2,.int .i64 d.wkind,.slice Av d.wvals.length cv,.slice As d.wsteps.length cs,.string d.mname,.int .u8 d.mkind,.slice Ag d.mg.length cg,.slice Am d.mv.length cm] 89)
        have HDB:=Ac hDB
        obtain ⟨r0,r1,r2,r3,r4,r5,r6,r7,r8,r9,r10,r11,r12⟩:=hDB
        have m0:=Aj ga m0 (by simp)
        have m1:=Aj ga m1 (by simp)
        have m2:=Aj ga m2 (by simp)
        have m3:=Aj ga m3 (by simp)
        have m4:=Aj ga m4 (by simp)
        have hRC:=Sw (wr.alloc (.cells #[.int .u8 d.kind,.string d.name,.slice An d.nodes.length cn,.int .i64 d.ref,.int .i64 d.val.1,.int .i64 d.val.2,.int .i64 d.wkind,.slice Av d.wvals.length cv,.slice As d.wsteps.length cs,.string d.mname,.int .u8 d.mkind,.slice Ag d.mg.length cg,.slice Am d.mv.length cm] 89)) (some ⟨b,o,none⟩) c1 (some ⟨b2,o2,none⟩) c2 f.step.1 f.step.2 f.method f.nodes f.devs d An cn Av cv As cs Ag cg Am cm HF.out.n1 HF.out.n2 (hdrow.more ga) (hat.more ga) (hgl.more ga)
        have HRC:=Ac hRC
        have HNS:=Ac hnsu
        have hown2:=hown.alloc (.cells #[.int .u8 d.kind,.string d.name,.slice An d.nodes.length cn,.int .i64 d.ref,.int .i64 d.val.1,.int .i64 d.val.2,.int .i64 d.wkind,.slice Av d.wvals.length cv,.slice As d.wsteps.length cs,.string d.mname,.int .u8 d.mkind,.slice Ag d.mg.length cg,.slice Am d.mv.length cm] 89)
        clear hd hRC hnsu hdrow hgl hat
        go_wp2_with fail
        refine HRC.out.mono ?_
        rintro e w3 ⟨rfl,hg3⟩
        cases hdb:devB f.nodes.length f.devs d with
        | false =>
         have hfin:R=90:=by
          have:Em f=false:=by
           unfold Em
           rw [decide_eq_false_iff_not]
           intro h
           have:=h k hlt
           rw [HD.out,hdb] at this
           cases this
          rw [HU3.out,this];rfl
         have HFIN:=Ac hfin
         clear hfin hdb
         go_wp2_with fail
         go_ret
         exact ⟨B9 HFIN.out.symm,Ae HG3.out (Ae hg (Ae ga hg3))⟩
        | true =>
         have HDBT:=Ac hdb
         clear hdb r0 r1 r2 r3 r4 r5 r6 r7 r8 r9 r10 r11 r12 q0 q1 q2 q3 q4 q5 q6 q7 q8 q9 q10 q11 q12 m0 m1 m2 m3 m4
         have r1:=Aj hg3 HDB.out.c1 (by simp)
         have hsb:=(Ae hg (Ae ga hg3)).size
         have hown3:=Jc hown2 hg3
         go_wp2_with (first
          | (at_builtin;refine Fp wo.heap.size rfl (.tmp 80) (.tmp 83) 22 9 (.string ByteArray.empty) 1 16 rfl Tryz.underlying22 Le rfl (by omega) (by omega) u5 k (strs (Cx (f.devs.take k))) #[.string d.name] (by rfl) hown3 (by rfl) rfl (by simp [Value.oneCell']) (by omega) (by omega) ?_;intro v1 w4 hown4 hg4 hat4)
          | go_in)
         go_roundw
         case rel=>exact ⟨k+1,by omega,by go_num,by rw [HNS.out,Mq];exact hown4,Ep (Ae hg (Ae ga hg3)) hg4 (D4 hown3),Ac (fun t ht=>by
          by_cases htk:t=k
          ·subst htk;rw [HD.out];exact HDBT.out
          ·exact hb.out t (by omega))⟩
         case measure=>simp [intOf];omega
       ·obtain rfl:k=f.devs.length:=by omega
        have hdb:Em f=true:=by unfold Em;rw [decide_eq_true_iff];exact hb.out
        have hU4:R=(if decide (Cx f.devs).Nodup then (if unk f≤48 then 0 else 5) else 90):=by rw [HU3.out,hdb];simp only [Bool.true_and]
        have HU4:=Ac hU4
        have hr:=E5 hown
        rw [List.take_length] at hr
        have hnz:∀ s∈Cx f.devs,s.size≤9223372036854775807:=by
         intro s hs
         unfold Cx at hs
         rw [List.mem_map] at hs
         obtain ⟨d,hd,rfl⟩:=hs
         obtain ⟨j,hj,rfl⟩:=List.mem_iff_getElem.1 hd
         obtain ⟨_,_,_,_,_,_,_,_,_,_,_,_,_,hat,_⟩:=(HF3.out.more hg).devs.at2 hj
         have:=hat.name
         rw [show f.devs.getD j dev0=f.devs[j] by simp [List.getD,List.getElem?_eq_getElem hj]] at this
         omega
        have hT:=Mt wr _ (Cx f.devs) hr hnz (by rw [Qs];omega)
        obtain ⟨T,hTT⟩:∃ T,decide (¬ (Cx f.devs).Nodup)=T:=⟨_,rfl⟩
        rw [hTT] at hT
        have HT2:=Ac hT
        have HTT:=Ac hTT
        have HG4:=Ac (Ae HG3.out hg)
        have HF4:=Ac (HF3.out.more hg)
        have HB4:=Ac (HB3'.out.more hg)
        clear hT hTT hnz hr hU4 hdb hown hb hk hlt hg HU3 p0 p1 p2 p3 p4
        go_wp2_with fail
        refine HT2.out.mono ?_
        rintro e w3 ⟨rfl,hg3⟩
        cases T with
        | true =>
         have hfin:R=90:=by
          have:=of_decide_eq_true HTT.out
          rw [HU4.out];simp [this]
         have HFIN:=Ac hfin
         clear hfin
         go_wp2_with fail
         go_ret
         exact ⟨B9 HFIN.out.symm,Ae HG4.out hg3⟩
        | false =>
         have hfin:R=(if unk f≤48 then 0 else 5):=by
          have:=of_decide_eq_false HTT.out
          simp only [Decidable.not_not] at this
          rw [HU4.out];simp [this]
         obtain ⟨p0,p1,p2,p3,p4⟩:=HB4.out.more hg3
         have hcc:=Mg w3 _ _ f.step.1 f.step.2 f.method f.nodes f.devs (HF4.out.more hg3).nodes (HF4.out.more hg3).devs HF.out.n1 HF.out.n2
         have hun:unk f=(f.nodes.length:Int)-1+nbr f.devs f.devs.length:=rfl
         rw [←hun] at hcc
         clear hun
         generalize unk f=U at *
         have HCC:=Ac hcc
         have HFIN:=Ac hfin
         clear hcc hfin
         go_wp2_with fail
         refine HCC.out.mono ?_
         rintro e w4 ⟨v,rfl,hrv,hfv,hg4⟩
         by_cases h48:U≤48
         ·have h48':¬ 48<U:=by omega
          go_wp2_with fail
          go_ret
          exact ⟨B9 (by rw [HFIN.out,if_pos h48]),Ae HG4.out (Ae hg3 hg4)⟩
         ·have h48':48<U:=by omega
          go_wp2_with fail
          go_ret
          exact ⟨B9 (by rw [HFIN.out,if_neg (by omega)]),Ae HG4.out (Ae hg3 hg4)⟩
end
section
open Go.RowKit Go.ChangeShapes Go.WideShapes Go.Deep
section
variable {H:Type} {enc:TypeId × Value→H} {P:Program} {w:World} {base:Nat} {spare:Nat→Bool} {held:Bool}
theorem Ji {d:DataW H}:∀ {l:List (DataW H)},d∈l→Rows.uptoBulk d≤Rows.uptoBulkAll l
 | x::r,h=>by
  simp only [Rows.uptoBulkAll]
  rcases List.mem_cons.1 h with rfl | h
  ·omega
  ·have:=Ji h;omega
theorem Yg (d:DataW H):1≤Rows.uptoBulk d:=by
 cases d with
 | lit l=>cases l<;>simp [Rows.uptoBulk]
 | _=>simp [Rows.uptoBulk]
theorem Nl:∀ l:List (DataW H),l.length≤Rows.uptoBulkAll l
 | []=>by simp [Rows.uptoBulkAll]
 | d::r=>by have:=Yg d;have:=Nl r;simp only [Rows.uptoBulkAll,List.length_cons];omega
theorem Jp {t:TypeId} {fs:Array Field} {fuel:Nat} {cs:List Value} {x:DataW H × List MemPlace} (ht:P.underlying t=some (.struct fs)) (h:DataW.trod enc P w base spare held fuel t cs=some x) :
  ∃ n,cs.length=P.cellsOf t∧∀ (i:Nat) (f:Field),fs[i]? = some f→∃ y,DataW.trod enc P w base spare held n f.type ((cs.drop f.offset).take (P.cellsOf f.type))=some y∧Rows.uptoBulk y.1≤Rows.uptoBulk x.1:=by
 obtain ⟨xs,n,_,rfl,hl,hlen,hf⟩:=DataW.trod_struct ht h
 refine ⟨n,hl,fun i f hi=>?_⟩
 have hlt:i<fs.size:=(Array.getElem?_eq_some_iff.1 hi).1
 refine ⟨xs[i]'(by omega),by rw [hf i f hi,List.getElem?_eq_getElem (by omega)],?_⟩
 simp only [Rows.uptoBulk]
 exact Nat.le_succ_of_le (Ji (List.mem_map.2 ⟨_,List.getElem_mem _,rfl⟩))
theorem Cr {fs:Array Field} {cs:List Value} {n m:Nat} (h:∀ (i:Nat) (f:Field),fs[i]? = some f→∃ y,DataW.trod enc P w base spare held n f.type ((cs.drop f.offset).take (P.cellsOf f.type))=some y∧Rows.uptoBulk y.1≤m)
  (i:Nat) {f:Field} (hi:fs[i]? = some f) {tt:TypeId} {o k:Nat} (ht:f.type=tt) (ho:f.offset=o) (hk:P.cellsOf tt=k):∃ y,DataW.trod enc P w base spare held n tt ((cs.drop o).take k)=some y∧Rows.uptoBulk y.1≤m:=by
 subst ht ho hk
 exact h i f hi
theorem Qz {α:Type} (d:α) {t e:TypeId} {k:Nat} (ht:P.underlying t=some (.slice e)) (hc:P.cellsOf e=k) (hk:0<k) (p:List Value→α→Nat→Prop) (hmono:∀ cs y a b,a≤b→p cs y a→p cs y b)
  {fuel:Nat} {cs:List Value} {x:DataW H × List MemPlace} (hp:∀ n cs x,DataW.trod enc P w base spare held n e cs=some x→∃ y,p cs y (Rows.uptoBulk x.1)) (h:DataW.trod enc P w base spare held fuel t cs=some x) :
  ∃ (A:Option Addr) (l:List α) (cap:Nat),cs=[.slice A l.length cap]∧l.length≤cap∧cap≤9223372036854775807∧(A=none→cap=0)∧l.length≤Rows.uptoBulk x.1∧
   (0<l.length→∃ b o,A=some ⟨b,o,none⟩∧∀ i,i<l.length→∃ cs',cs'.length=k∧p cs' (l.getD i d) (Rows.uptoBulk x.1)∧∀ j,j<k→w.cell? ⟨b,o+i*k+j,none⟩=cs'[j]?):=by
 rcases open_slice ht h with ⟨rfl,_⟩ | ⟨a,len,cap,m,n,D,Pl,rfl,hb,hl,hm,hmm,rfl,hx⟩
 ·exact ⟨none,[],0,rfl,Nat.le_refl _,by omega,fun _=>rfl,by simp,fun h=>by simp at h⟩
 ·have hlm:len≤m:=by rw [hmm];split<;>omega
  rw [hc] at hx
  have hbk:∀ i,i<len→Rows.uptoBulk (D i)≤Rows.uptoBulk (.slice ((List.range len).map D) ((List.range (m-len)).map fun j=>D (len+j))):=fun i hi=>by
   have:=Ji (H:=H) (List.mem_map.2 ⟨i,List.mem_range.2 hi,rfl⟩:D i∈(List.range len).map D)
   simp only [Rows.uptoBulk];omega
  have hbl:len≤Rows.uptoBulk (.slice ((List.range len).map D) ((List.range (m-len)).map fun j=>D (len+j))):=by
   have:=Nl ((List.range len).map D)
   simp only [Rows.uptoBulk];simp at this;omega
  obtain ⟨l,hll,hpl⟩:=Qr (α:=α) (p:=fun i y=>∃ cs',cs'.length=k∧p cs' y (Rows.uptoBulk (.slice ((List.range len).map D) ((List.range (m-len)).map fun j=>D (len+j))))∧∀ j,j<k→w.cell? ((a.add (i*k)).add j)=cs'[j]?) d (n:=len) (fun i hi=>by
   obtain ⟨cs',h1,h2⟩:=hx i (by omega)
   obtain ⟨y,hy⟩:=hp _ _ _ h2
   obtain ⟨_,h3,h4⟩:=World.cells?_some h1
   exact ⟨y,cs',h3,hmono _ _ _ _ (hbk i hi) hy,h4⟩)
  subst hll
  refine ⟨some a,l,cap,rfl,hl,by simpa [maxLen] using hm,(fun h=>by cases h),hbl,fun hpos=>?_⟩
  obtain ⟨b,off,spot⟩:=a
  obtain ⟨cs0,h3,_,h4⟩:=hpl 0 hpos
  have h5:=h4 0 hk
  rw [List.getElem?_eq_getElem (by omega)] at h5
  have hspot:spot=none:=by simpa [Addr.add] using World.cell?_spot h5
  subst hspot
  refine ⟨b,off,rfl,fun i hi=>?_⟩
  obtain ⟨cs',h6,h7,h8⟩:=hpl i hi
  refine ⟨cs',h6,h7,fun j hj=>?_⟩
  rw [←h8 j hj,add_plain,add_plain]
theorem A0q {t e:TypeId} (ht:P.underlying t=some (.slice e)) (he:P.underlying e=some .string) (hc:P.cellsOf e=1) {fuel:Nat} {cs:List Value} {x:DataW H × List MemPlace}
  (h:DataW.trod enc P w base spare held fuel t cs=some x):∃ A l c,cs=[.slice A (l:List ByteArray).length c]∧Row w (.slice A l.length c) (strs l)∧l.length≤Rows.uptoBulk x.1∧∀ s∈l,s.size≤Rows.uptoBulk x.1:=by
 obtain ⟨A,l,cap,rfl,h1,h2,h3,h5,h4⟩:=Qz (α:=ByteArray) default ht hc (by omega) (fun cs y m=>cs=[.string y]∧y.size≤m) (fun cs y a b hab hy=>⟨hy.1,by omega⟩) (fun n cs x hx=>by
  obtain ⟨s,rfl,rfl,_⟩:=DataW.trod_string he hx
  exact ⟨s,rfl,by simp only [Rows.uptoBulk,Array.length_toList];exact Nat.le_succ _⟩) h
 have hget:∀ i (hi:i<l.length),l.getD i default=l[i]:=fun i hi=>by rw [List.getD_eq_getElem?_getD,List.getElem?_eq_getElem hi];rfl
 refine ⟨A,l,cap,rfl,?_,h5,fun s hs=>?_⟩
 ·by_cases hp:0<l.length
  ·obtain ⟨b,o,rfl,hcell⟩:=h4 hp
   refine Row.mk (by rw [Bt]) (by rw [Bt];exact h1) h2 fun i hi=>?_
   rw [Bt] at hi
   obtain ⟨cs',_,⟨rfl,_⟩,hj⟩:=hcell i hi
   have:=hj 0 (by omega)
   rw [Nat.mul_one,Nat.add_zero] at this
   rw [this,I2 l i hi];rfl
  ·obtain rfl:l=[]:=List.eq_nil_of_length_eq_zero (by omega)
   exact Row.empty w h2 h3
 ·obtain ⟨i,hi,rfl⟩:=List.getElem_of_mem hs
  obtain ⟨b,o,_,hcell⟩:=h4 (by omega)
  obtain ⟨cs',_,⟨_,hlt⟩,_⟩:=hcell i hi
  rw [hget i hi] at hlt
  exact hlt
theorem N1 {t e:TypeId} (ht:P.underlying t=some (.slice e)) (he:P.underlying e=some (.int .i64)) (hc:P.cellsOf e=1) {fuel:Nat} {cs:List Value} {x:DataW H × List MemPlace}
  (h:DataW.trod enc P w base spare held fuel t cs=some x):∃ A l c,cs=[.slice A (l:List Int).length c]∧IntRow w (.slice A l.length c) l∧l.length≤Rows.uptoBulk x.1:=by
 obtain ⟨v,l,rfl,hr,hl⟩:=A0v ht he hc h
 obtain ⟨A,c,rfl,_⟩:=hr.ctor
 refine ⟨A,l,c,rfl,hr,?_⟩
 rcases hl with rfl | ⟨es,sp,e1,e2⟩
 ·simp
 ·rw [e1,←e2];have:=Nl es;simp only [Rows.uptoBulk];omega
theorem Kf {t:TypeId} (he:P.underlying t=some (.int .i64)) {fuel:Nat} {c:Value} {x:DataW H × List MemPlace} (h:DataW.trod enc P w base spare held fuel t [c]=some x):∃ z,c=.int .i64 z∧I64 z:=by
 obtain ⟨z,hz,_,hw⟩:=DataW.trod_int he h
 injection hz with hz
 exact ⟨z,hz,by have:-9223372036854775808≤z∧z≤9223372036854775807:=(by simpa [Lit.wf,IntKind.min,IntKind.max,IntKind.signed,IntKind.bits] using hw);exact this⟩
theorem A1n {t:TypeId} (he:P.underlying t=some (.int .u8)) {fuel:Nat} {c:Value} {x:DataW H × List MemPlace} (h:DataW.trod enc P w base spare held fuel t [c]=some x):∃ z,c=.int .u8 z∧0≤z∧z≤255:=by
 obtain ⟨z,hz,_,hw⟩:=DataW.trod_int he h
 injection hz with hz
 have:0≤z∧z≤255:=by simpa [Lit.wf,IntKind.min,IntKind.max,IntKind.signed,IntKind.bits] using hw
 exact ⟨z,hz,this.1,this.2⟩
end
section
variable {H:Type} {enc:TypeId × Value→H} {w:World} {base:Nat} {spare:Nat→Bool} {held:Bool}
theorem A1m:Tryz.prog.cellsOf 5=1:=by kernel_rfl
theorem Uv:Tryz.prog.cellsOf 9=1:=by kernel_rfl
theorem A0u:Tryz.prog.cellsOf 22=1:=by kernel_rfl
theorem R2:Tryz.prog.cellsOf 30=1:=by kernel_rfl
theorem A0t:Tryz.prog.cellsOf 2=1:=by kernel_rfl
theorem Oc:Tryz.prog.cellsOf 25=2:=by kernel_rfl
theorem R1:Tryz.prog.cellsOf 83=1:=by kernel_rfl
theorem Vt:Tryz.prog.cellsOf 85=3:=by kernel_rfl
theorem Su:Tryz.prog.cellsOf 87=4:=by kernel_rfl
theorem Zn:Tryz.prog.cellsOf 89=13:=by kernel_rfl
theorem A0r:Tryz.prog.cellsOf 23=1:=by kernel_rfl
theorem A0s:Tryz.prog.cellsOf 27=5:=by kernel_rfl
theorem Od:Tryz.prog.cellsOf 29=4:=by kernel_rfl
set_option maxRecDepth 100000 in
theorem R3 {fuel:Nat} {cs:List Value} {x:DataW H × List MemPlace} (h:DataW.trod enc Tryz.prog w base spare held fuel 25 cs=some x):∃ p:Int × Int,cs=[.int .i64 p.1,.int .i64 p.2]∧I64 p.1∧I64 p.2:=by
 obtain ⟨n,hl,hf⟩:=Lz Tryz.underlying25 h
 rw [Oc] at hl
 match cs,hl with
 | [c0,c1],_ =>
 obtain ⟨y0,h0⟩:=Gz hf 0 rfl (tt:=2) (o:=0) rfl rfl A0t
 have h0:DataW.trod enc Tryz.prog w base spare held n 2 [c0]=some y0:=h0
 obtain ⟨y1,h1⟩:=Gz hf 1 rfl (tt:=3) (o:=1) rfl rfl Hq
 have h1:DataW.trod enc Tryz.prog w base spare held n 3 [c1]=some y1:=h1
 obtain ⟨a,rfl,ia⟩:=Kf Tryz.underlying2 h0
 obtain ⟨b,rfl,ib⟩:=Kf Tryz.underlying3 h1
 exact ⟨(a,b),rfl,ia,ib⟩
theorem Qy {fuel:Nat} {cs:List Value} {x:DataW H × List MemPlace} (h:DataW.trod enc Tryz.prog w base spare held fuel 83 cs=some x):∃ A l c,cs=[.slice A (l:List (Int × Int)).length c]∧NumRow w (.slice A l.length c) l∧l.length≤Rows.uptoBulk x.1:=by
 obtain ⟨A,l,cap,rfl,h1,h2,h3,h5,h4⟩:=Qz (α:=Int × Int) (0,0) Tryz.underlying83 Oc (by omega) (fun cs p _=>cs=[.int .i64 p.1,.int .i64 p.2]∧I64 p.1∧I64 p.2) (fun cs y a b hab hy=>hy) (fun n cs x hx=>R3 hx) h
 refine ⟨A,l,cap,rfl,⟨A,cap,rfl,h1,h2,fun p hp=>?_,fun hp=>?_⟩,h5⟩
 ·obtain ⟨i,hi,rfl⟩:=List.getElem_of_mem hp
  obtain ⟨b,o,_,hcell⟩:=h4 (by omega)
  obtain ⟨cs',_,⟨_,hlt⟩,_⟩:=hcell i hi
  rw [List.getD_eq_getElem?_getD,List.getElem?_eq_getElem hi] at hlt
  exact hlt
 ·obtain ⟨b,o,rfl,hcell⟩:=h4 hp
  refine ⟨b,o,rfl,fun i hi=>?_⟩
  obtain ⟨cs',_,⟨rfl,_⟩,hj⟩:=hcell i hi
  exact ⟨hj 0 (by omega),hj 1 (by omega)⟩
set_option maxRecDepth 100000 in
theorem A0p {fuel:Nat} {cs:List Value} {x:DataW H × List MemPlace} (h:DataW.trod enc Tryz.prog w base spare held fuel 85 cs=some x):∃ k A1 l1 c1 A2 l2 c2,cs=[.int .i64 k,.slice A1 (l1:List (Int × Int)).length c1,.slice A2 (l2:List Int).length c2]∧I64 k∧NumRow w (.slice A1 l1.length c1) l1∧IntRow w (.slice A2 l2.length c2) l2∧l1.length≤Rows.uptoBulk x.1∧l2.length≤Rows.uptoBulk x.1:=by
 obtain ⟨n,hl,hf⟩:=Jp Tryz.underlying85 h
 rw [Vt] at hl
 match cs,hl with
 | [c0,c1,c2],_ =>
 obtain ⟨y0,h0,_⟩:=Cr hf 0 rfl (tt:=3) (o:=0) rfl rfl Hq
 have h0:DataW.trod enc Tryz.prog w base spare held n 3 [c0]=some y0:=h0
 obtain ⟨y1,h1,b1⟩:=Cr hf 1 rfl (tt:=83) (o:=1) rfl rfl R1
 have h1:DataW.trod enc Tryz.prog w base spare held n 83 [c1]=some y1:=h1
 obtain ⟨y2,h2,b2⟩:=Cr hf 2 rfl (tt:=30) (o:=2) rfl rfl R2
 have h2:DataW.trod enc Tryz.prog w base spare held n 30 [c2]=some y2:=h2
 obtain ⟨k,rfl,ik⟩:=Kf Tryz.underlying3 h0
 obtain ⟨A1,l1,k1,e1,r1,m1⟩:=Qy h1
 obtain ⟨A2,l2,k2,e2,r2,m2⟩:=N1 Tryz.underlying30 Tryz.underlying3 Hq h2
 injection e1 with e1
 injection e2 with e2
 subst e1 e2
 exact ⟨k,A1,l1,k1,A2,l2,k2,rfl,ik,r1,r2,Nat.le_trans m1 b1,Nat.le_trans m2 b2⟩
set_option maxRecDepth 100000 in
theorem Zm {fuel:Nat} {cs:List Value} {x:DataW H × List MemPlace} (h:DataW.trod enc Tryz.prog w base spare held fuel 87 cs=some x):∃ s k A1 l1 c1 A2 l2 c2,cs=[.string s,.int .u8 k,.slice A1 (l1:List (Int × Int)).length c1,.slice A2 (l2:List (Int × Int)).length c2]∧(0≤k∧k≤255)∧NumRow w (.slice A1 l1.length c1) l1∧NumRow w (.slice A2 l2.length c2) l2∧l1.length≤Rows.uptoBulk x.1∧l2.length≤Rows.uptoBulk x.1∧s.size≤Rows.uptoBulk x.1:=by
 obtain ⟨n,hl,hf⟩:=Jp Tryz.underlying87 h
 rw [Su] at hl
 match cs,hl with
 | [c0,c1,c2,c3],_ =>
 obtain ⟨y0,h0,b0⟩:=Cr hf 0 rfl (tt:=9) (o:=0) rfl rfl Uv
 have h0:DataW.trod enc Tryz.prog w base spare held n 9 [c0]=some y0:=h0
 obtain ⟨y1,h1,_⟩:=Cr hf 1 rfl (tt:=5) (o:=1) rfl rfl A1m
 have h1:DataW.trod enc Tryz.prog w base spare held n 5 [c1]=some y1:=h1
 obtain ⟨y2,h2,b2⟩:=Cr hf 2 rfl (tt:=83) (o:=2) rfl rfl R1
 have h2:DataW.trod enc Tryz.prog w base spare held n 83 [c2]=some y2:=h2
 obtain ⟨y3,h3,b3⟩:=Cr hf 3 rfl (tt:=83) (o:=3) rfl rfl R1
 have h3:DataW.trod enc Tryz.prog w base spare held n 83 [c3]=some y3:=h3
 obtain ⟨s,e0,ex,_⟩:=DataW.trod_string Tryz.underlying9 h0
 subst ex
 simp only [Rows.uptoBulk,Array.length_toList] at b0
 obtain ⟨k,rfl,k0,k1⟩:=A1n Tryz.underlying5 h1
 obtain ⟨A1,l1,d1,e1,r1,m1⟩:=Qy h2
 obtain ⟨A2,l2,d2,e2,r2,m2⟩:=Qy h3
 injection e0 with e0
 injection e1 with e1
 injection e2 with e2
 subst e0 e1 e2
 exact ⟨s,k,A1,l1,d1,A2,l2,d2,rfl,⟨k0,k1⟩,r1,r2,Nat.le_trans m1 b2,Nat.le_trans m2 b3,by have:s.data.size=s.size:=rfl;omega⟩
def DevS (d:DevP):Prop:=d.mname.size≤4611686018427387904∧d.nodes.length≤2000000∧d.wvals.length≤2000000∧d.wsteps.length≤2000000∧d.mg.length≤2000000∧d.mv.length≤2000000
set_option maxRecDepth 100000 in
theorem A1x {fuel:Nat} {cs:List Value} {x:DataW H × List MemPlace} (h:DataW.trod enc Tryz.prog w base spare held fuel 89 cs=some x):∃ d:DevP,Rows.uptoBulk x.1≤1048576→DevV w cs d∧DevS d:=by
 obtain ⟨n,hl,hf⟩:=Jp Tryz.underlying89 h
 rw [Zn] at hl
 match cs,hl with
 | [c0,c1,c2,c3,c4,c5,c6,c7,c8,c9,c10,c11,c12],_ =>
 obtain ⟨y0,h0,_⟩:=Cr hf 0 rfl (tt:=5) (o:=0) rfl rfl A1m
 have h0:DataW.trod enc Tryz.prog w base spare held n 5 [c0]=some y0:=h0
 obtain ⟨y1,h1,b1⟩:=Cr hf 1 rfl (tt:=9) (o:=1) rfl rfl Uv
 have h1:DataW.trod enc Tryz.prog w base spare held n 9 [c1]=some y1:=h1
 obtain ⟨y2,h2,b2⟩:=Cr hf 2 rfl (tt:=30) (o:=2) rfl rfl R2
 have h2:DataW.trod enc Tryz.prog w base spare held n 30 [c2]=some y2:=h2
 obtain ⟨y3,h3,_⟩:=Cr hf 3 rfl (tt:=3) (o:=3) rfl rfl Hq
 have h3:DataW.trod enc Tryz.prog w base spare held n 3 [c3]=some y3:=h3
 obtain ⟨y4,h4,_⟩:=Cr hf 4 rfl (tt:=25) (o:=4) rfl rfl Oc
 have h4:DataW.trod enc Tryz.prog w base spare held n 25 [c4,c5]=some y4:=h4
 obtain ⟨y5,h5,b5⟩:=Cr hf 5 rfl (tt:=85) (o:=6) rfl rfl Vt
 have h5:DataW.trod enc Tryz.prog w base spare held n 85 [c6,c7,c8]=some y5:=h5
 obtain ⟨y6,h6,b6⟩:=Cr hf 6 rfl (tt:=87) (o:=9) rfl rfl Su
 have h6:DataW.trod enc Tryz.prog w base spare held n 87 [c9,c10,c11,c12]=some y6:=h6
 obtain ⟨kd,rfl,k0,k1⟩:=A1n Tryz.underlying5 h0
 obtain ⟨nm,e1,ex,_⟩:=DataW.trod_string Tryz.underlying9 h1
 obtain ⟨An,ln,cn,e2,rn,mn⟩:=N1 Tryz.underlying30 Tryz.underlying3 Hq h2
 obtain ⟨rf,rfl,ir⟩:=Kf Tryz.underlying3 h3
 obtain ⟨p,e4,i1,i2⟩:=R3 h4
 obtain ⟨wk,Av,lv,cv,As,ls,cs',e5,iw,rv,rs,mv,ms⟩:=A0p h5
 obtain ⟨mm,mk,Ag,lg,cg,Am,lm,cm,e6,im,rg,rm,mg,mmv,mms⟩:=Zm h6
 subst ex
 simp only [Rows.uptoBulk,Array.length_toList] at b1
 injection e1 with e1
 injection e2 with e2
 injection e4 with e4 e4'
 injection e4' with e4'
 injection e5 with e5 e5'
 injection e5' with e5' e5''
 injection e5'' with e5''
 injection e6 with e6 e6'
 injection e6' with e6' e6''
 injection e6'' with e6'' e6'''
 injection e6''' with e6'''
 subst e1 e2 e4 e4' e5 e5' e5'' e6 e6' e6'' e6'''
 exact ⟨⟨kd,nm,ln,rf,p,wk,lv,ls,mm,mk,lg,lm⟩,fun hb=>⟨⟨⟨k0,k1⟩,im,ir,i1,i2,iw,by have:nm.data.size=nm.size:=rfl;show nm.size<4294967281;omega,⟨by show ln.length≤_;omega,by show lv.length≤_;omega,by show ls.length≤_;omega,by show lg.length≤_;omega,by show lm.length≤_;omega⟩,_,_,_,_,_,rfl,rn,rv,rs,rg,rm⟩,by show mm.size≤_;omega,by show ln.length≤_;omega,by show lv.length≤_;omega,by show ls.length≤_;omega,by show lg.length≤_;omega,by show lm.length≤_;omega⟩⟩
theorem A0n {fuel:Nat} {cs:List Value} {x:DataW H × List MemPlace} (h:DataW.trod enc Tryz.prog w base spare held fuel 23 cs=some x) (hb:Rows.uptoBulk x.1≤1048576):∃ A l c,cs=[.slice A (l:List DevP).length c]∧DevRow w (.slice A l.length c) l∧l.length≤Rows.uptoBulk x.1∧∀ d∈l,DevS d:=by
 obtain ⟨A,l,cap,rfl,h1,h2,h3,h5,h4⟩:=Qz (α:=DevP) dev0 Tryz.underlying23 Zn (by omega) (fun cs d m=>m≤1048576→DevV w cs d∧DevS d) (fun cs y a b hab hy hm=>hy (by omega)) (fun n cs x hx=>A1x hx) h
 refine ⟨A,l,cap,rfl,⟨A,cap,rfl,h1,h2,fun hp=>?_⟩,h5,fun d hd=>?_⟩
 ·obtain ⟨b,o,rfl,hcell⟩:=h4 hp
  refine ⟨b,o,rfl,fun i hi=>?_⟩
  obtain ⟨cs',_,hd,hj⟩:=hcell i hi
  exact ⟨cs',(hd hb).1,hj⟩
 ·obtain ⟨i,hi,rfl⟩:=List.mem_iff_getElem.1 hd
  obtain ⟨b,o,rfl,hcell⟩:=h4 (by omega)
  obtain ⟨cs',_,hd,hj⟩:=hcell i hi
  have:=(hd hb).2
  rwa [List.getD_eq_getElem?_getD,List.getElem?_eq_getElem hi] at this
set_option maxRecDepth 100000 in
theorem A0o {fuel:Nat} {cs:List Value} {x:DataW H × List MemPlace} (h:DataW.trod enc Tryz.prog w base spare held fuel 27 cs=some x) (hb:Rows.uptoBulk x.1≤1048576):∃ (f:Bf) (A1:Option Addr) (c1:Nat) (A2:Option Addr) (c2:Nat),cs=[.slice A1 f.nodes.length c1,.slice A2 f.devs.length c2,.int .i64 f.step.1,.int .i64 f.step.2,.int .i64 f.method]∧FlatAt w f A1 c1 A2 c2∧∀ d∈f.devs,DevS d:=by
 obtain ⟨n,hl,hf⟩:=Jp Tryz.underlying27 h
 rw [A0s] at hl
 match cs,hl with
 | [c0,c1,c2,c3,c4],_ =>
 obtain ⟨y0,h0,b0⟩:=Cr hf 0 rfl (tt:=22) (o:=0) rfl rfl A0u
 have h0:DataW.trod enc Tryz.prog w base spare held n 22 [c0]=some y0:=h0
 obtain ⟨y1,h1,b1⟩:=Cr hf 1 rfl (tt:=23) (o:=1) rfl rfl A0r
 have h1:DataW.trod enc Tryz.prog w base spare held n 23 [c1]=some y1:=h1
 obtain ⟨y2,h2,_⟩:=Cr hf 2 rfl (tt:=25) (o:=2) rfl rfl Oc
 have h2:DataW.trod enc Tryz.prog w base spare held n 25 [c2,c3]=some y2:=h2
 obtain ⟨y3,h3,_⟩:=Cr hf 3 rfl (tt:=3) (o:=4) rfl rfl Hq
 have h3:DataW.trod enc Tryz.prog w base spare held n 3 [c4]=some y3:=h3
 obtain ⟨A1,l1,k1,e0,r1,m1,s1⟩:=A0q Tryz.underlying22 Tryz.underlying9 Uv h0
 obtain ⟨A2,l2,k2,e1,r2,m2,ms2⟩:=A0n h1 (Nat.le_trans b1 hb)
 obtain ⟨p,e2,i1,i2⟩:=R3 h2
 obtain ⟨me,rfl,im⟩:=Kf Tryz.underlying3 h3
 injection e0 with e0
 injection e1 with e1
 injection e2 with e2 e2'
 injection e2' with e2'
 subst e0 e1 e2 e2'
 exact ⟨⟨l1,l2,p,me⟩,A1,k1,A2,k2,rfl,⟨r1,fun s hs=>by have:=s1 s hs;omega,r2,i1,i2,im,by show l1.length≤_;omega,by show l2.length≤_;omega⟩,ms2⟩
set_option maxRecDepth 100000 in
theorem Uw {fuel:Nat} {cs:List Value} {x:DataW H × List MemPlace} (h:DataW.trod enc Tryz.prog w base spare held fuel 29 cs=some x):∃ mode method t1 t2,cs=[.int .i64 mode,.int .i64 method,.int .i64 t1,.int .i64 t2]∧I64 t1∧I64 t2:=by
 obtain ⟨n,hl,hf⟩:=Lz Tryz.underlying29 h
 rw [Od] at hl
 match cs,hl with
 | [c0,c1,c2,c3],_ =>
 obtain ⟨y0,h0⟩:=Gz hf 0 rfl (tt:=3) (o:=0) rfl rfl Hq
 have h0:DataW.trod enc Tryz.prog w base spare held n 3 [c0]=some y0:=h0
 obtain ⟨y1,h1⟩:=Gz hf 1 rfl (tt:=3) (o:=1) rfl rfl Hq
 have h1:DataW.trod enc Tryz.prog w base spare held n 3 [c1]=some y1:=h1
 obtain ⟨y2,h2⟩:=Gz hf 2 rfl (tt:=25) (o:=2) rfl rfl Oc
 have h2:DataW.trod enc Tryz.prog w base spare held n 25 [c2,c3]=some y2:=h2
 obtain ⟨a,rfl,_⟩:=Kf Tryz.underlying3 h0
 obtain ⟨b,rfl,_⟩:=Kf Tryz.underlying3 h1
 obtain ⟨p,e2,i1,i2⟩:=R3 h2
 injection e2 with e2 e2'
 injection e2' with e2'
 subst e2 e2'
 exact ⟨a,b,p.1,p.2,rfl,i1,i2⟩
end
end
end Go.Proofs.YtmfmfpmkgmkgiaaGreatDoor
