/- RefZ RigA. -/
import Derived.Test.YtckbiimikeiejaaGreatDoorMat
import Derived.Test.YtckbiimikeiejaaGreatDoorMaj
import Derived.Test.YtckbiimikeiejaaGreatDoorMai
import Derived.BigQuiet
import Derived.Test.YtckbiimikeiejaaGreatDoorMaw
import Derived.Test.YtckbiimikeiejaaGreatDoorMau
import Derived.Test.YtckbiimikeiejaaGreatDoorMav
import Derived.Deep.DeepCutAuto
import Derived.Deep.CutBlock
set_option linter.unusedVariables false
set_option linter.unusedSimpArgs false
set_option maxHeartbeats 40000000
namespace Go.Proofs.YtckbiimikeiejaaGreatDoor
section
open Go.RowKit
set_option maxRecDepth 100000 in
theorem Ov (w:World) (sv:Value) (steps:List Int) (hs:IntRow w sv steps) :
  Calls Tryz.prog 239 #[sv] w fun e w'=>e=.returned (.bool (decide (∀ i,i<steps.length→1≤i→steps.getD (i-1) 0<steps.getD i 0)))∧w.grownBy w' none:=by
 obtain ⟨D,hD⟩:∃ D,decide (∀ i,i<steps.length→1≤i→steps.getD (i-1) 0<steps.getD i 0)=D:=⟨_,rfl⟩
 rw [hD]
 have HD:=Ac hD
 clear hD
 have HS:=Ac hs
 obtain ⟨A2,c2,rfl,b1,b2,_,_⟩:=hs
 go_enter Tryz.func239,Tryz.ntmps239
 go_wp2_with fail
 go_loopw [3] (fun i wr=>∃ k:Nat,(1≤k∧(k≤steps.length∨k=1))∧i=.int .i64 k∧w.grownBy wr none∧Hid (∀ i,i<k→1≤i→steps.getD (i-1) 0<steps.getD i 0)) (fun i _=>(steps.length-intOf i).toNat)
 case atStart=>exact ⟨1,by omega,rfl,Al _ _,Ac (fun t ht=>by omega)⟩
 case round =>
  obtain ⟨k,hk,rfl,hg,hb⟩:=hrel
  by_cases hlt:k<steps.length
  ·obtain ⟨m,rfl⟩:∃ m,k=m+1:=⟨k-1,by omega⟩
   obtain ⟨b,o,rfl,⟨u1,u2⟩,q0⟩:=(HS.out.more hg).at hlt
   obtain ⟨b',o',e',⟨u3,u4⟩,q1⟩:=(HS.out.more hg).at (i:=m) (by omega)
   injection e' with e';injection e' with e1 e2 _;subst e1 e2
   have e1:(m:Int)+1<(steps.length:Int):=by omega
   have e2:(m:Int)<(steps.length:Int):=by omega
   have e3:((m:Int)+1).toNat=m+1:=by omega
   have e4:(0:Int)≤(m:Int)+1:=by omega
   have e5:IntKind.i64.wrap ((m:Int)+1-1)=(m:Int):=by rw [show (m:Int)+1-1=m by omega];exact IntWalk.i64_in _ (by omega)
   have e6:IntKind.i64.wrap (m:Int)=(m:Int):=IntWalk.i64_in _ (by omega)
   have e7:((m+1:Nat):Int)=(m:Int)+1:=by omega
   generalize hx1:steps.getD (m+1) 0=x1 at *
   generalize hx0:steps.getD m 0=x0 at *
   have HX:Hid (steps.getD (m+1) 0=x1∧steps.getD m 0=x0):=Ac ⟨hx1,hx0⟩
   clear hx1 hx0 e7 hk
   by_cases hd:x1≤x0
   ·have t5:decide (x1≤x0)=true:=by rw [decide_eq_true_iff];exact hd
    go_wp2_with fail
    go_quiet (fail)
    go_wp2
    go_ret
    exact ⟨Ao (by
     rw [←HD.out,eq_comm,decide_eq_false_iff_not]
     intro h
     have:=h (m+1) hlt (by omega)
     rw [Nat.add_sub_cancel,HX.out.1,HX.out.2] at this
     omega),Ae hg (Az _ _ _)⟩
   ·have t5:decide (x1≤x0)=false:=by rw [decide_eq_false_iff_not];exact hd
    go_wp2_with fail
    go_quiet (fail)
    go_wp2
    exact ⟨⟨m+1+1,by omega,by go_num,Ae hg (Az _ _ _),Ac (fun i hi h1=>by
     by_cases him:i=m+1
     ·subst him;rw [Nat.add_sub_cancel,HX.out.1,HX.out.2];omega
     ·exact hb.out i (by omega) h1)⟩,by simp [intOf];omega⟩
  ·have hge:¬ (k:Int)<(steps.length:Int):=by omega
   have HR:Hid (D=true):=Ac (by rw [←HD.out,decide_eq_true_iff];exact fun i hi h1=>hb.out i (by omega) h1)
   clear hk hb hlt
   go_wp2
   go_ret
   exact ⟨by rw [HR.out];rfl,hg⟩
set_option maxRecDepth 100000 in
theorem Ou (w:World) (kind:Int) (vv sv:Value) (vals:List (Int × Int)) (steps:List Int) (hv:NumRow w vv vals) (hs:IntRow w sv steps) :
  Calls Tryz.prog 168 #[.agg #[.int .i64 kind,vv,sv]] w fun e w'=>e=.returned (.bool (decide (Di kind vals steps)))∧w.grownBy w' none:=by
 have hvi:=hv.i64
 have HV:=Ac hv
 have HS:=Ac hs
 obtain ⟨A1,c1,rfl,a1,a2,_,_⟩:=hv
 obtain ⟨A2,c2,rfl,b1,b2,_,_⟩:=hs
 have gw:=Af w (.cells #[.int .i64 kind,.slice A1 vals.length c1,.slice A2 steps.length c2] 85) none
 have hB:=Blk.new w #[.int .i64 kind,.slice A1 vals.length c1,.slice A2 steps.length c2] 85
 obtain ⟨D,hD⟩:∃ D,decide (Di kind vals steps)=D:=⟨_,rfl⟩
 rw [hD]
 have HD:=Ac hD
 clear hD
 have m0:=hB.cell 0
 have m1:=hB.cell 1
 have m2:=hB.cell 2
 simp only [List.getElem?_toArray,List.getElem?_cons_zero,List.getElem?_cons_succ] at m0 m1 m2
 go_enter Tryz.func168,Tryz.ntmps168
 go_wp2_with fail
 generalize w.alloc (.cells #[.int .i64 kind,.slice A1 vals.length c1,.slice A2 steps.length c2] 85)=wa at *
 generalize hsz:w.heap.size=s at *
 go_loopw [3] (fun i wr=>∃ k:Nat,k≤vals.length∧i=.int .i64 k∧wa.grownBy wr none∧Hid (∀ t,t<k→Bu (vals.getD t (0,0))=true)) (fun i _=>(vals.length-intOf i).toNat)
 case atStart=>exact ⟨0,by omega,rfl,Al _ _,Ac (fun t ht=>by omega)⟩
 case round =>
  obtain ⟨k,hk,rfl,hg,hb⟩:=hrel
  have n1:=Aj hg m1 (by simp)
  by_cases hlt:k<vals.length
  ·have hrow:=HV.out
   obtain ⟨A',c',he,_,_,_,h4⟩:=hrow
   obtain ⟨b,o,rfl,hc⟩:=h4 (by omega)
   injection he with he1 he2 he3
   subst he1
   obtain ⟨p0,p1⟩:=hc k hlt
   have q0:=Aj (Ae gw hg) p0 (by simp)
   have q1:=Aj (Ae gw hg) p1 (by simp)
   obtain ⟨⟨u1,u2⟩,u3,u4⟩:=hvi k
   clear hc p0 p1 h4 he3
   generalize hp:vals.getD k (0,0)=p at *
   have HP:=Ac hp
   clear hp
   obtain ⟨m,e⟩:=p
   simp only at q0 q1 u1 u2 u3 u4
   go_wp2_with fail
   refine (Df _ m e u1 u2 u3 u4).mono ?_
   rintro e' w3 ⟨rfl,hg3⟩
   have g3:=Ae hg hg3
   cases hd:decide (NumOK m e) with
   | false =>
    have HF:=Ac (Mu (kind:=kind) (steps:=steps) hlt (by rw [HP.out];exact hd))
    clear hd
    go_wp2
    go_ret
    exact ⟨Ao (by rw [←HD.out];exact HF.out.symm),Ae gw g3⟩
   | true =>
    have HX:Hid (Bu (vals.getD k (0,0))=true):=Ac (by rw [HP.out];exact hd)
    clear hd
    go_wp2
    exact ⟨⟨k+1,by omega,Bl (by omega),g3,Ac (fun t ht=>by
     by_cases htk:t=k
     ·subst htk;exact HX.out
     ·exact hb.out t (by omega))⟩,by simp [intOf];omega⟩
  ·obtain rfl:k=vals.length:=by omega
   have HA:Hid (vals.all Bu=true):=Ac (Ez hb.out)
   have n0:=Aj hg m0 (by simp)
   have n1:=Aj hg m1 (by simp)
   have n2:=Aj hg m2 (by simp)
   have g1:=Ae gw hg
   clear hb hB m0 m1 m2 gw hg
   obtain ⟨wo,rfl⟩:∃ wo:World,wo=wr:=⟨_,rfl⟩
   go_wp2
   go_loopw [4] (fun i wr=>∃ k:Nat,k≤steps.length∧i=.int .i64 k∧wr=wo∧Hid (∀ t,t<k→Hr (steps.getD t 0))) (fun i _=>(steps.length-intOf i).toNat)
   case atStart=>exact ⟨0,by omega,rfl,rfl,Ac (fun t ht=>by omega)⟩
   case round =>
    obtain ⟨k,hk,rfl,rfl,hb⟩:=hrel
    by_cases hlt:k<steps.length
    ·obtain ⟨b,o,rfl,⟨u1,u2⟩,q0⟩:=(HS.out.more g1).at hlt
     generalize hp:steps.getD k 0=x at *
     have HP:=Ac hp
     clear hp
     by_cases hx:Hr x
     ·have HX:=Ac hx
      obtain ⟨x1,x2⟩:=hx
      have d1:¬ x<0:=by omega
      have d2:¬ (1000000000:Int)<x:=by omega
      go_wp2
      exact ⟨⟨k+1,by omega,Bl (by omega),trivial,Ac (fun t ht=>by
       by_cases htk:t=k
       ·subst htk;rw [HP.out];exact HX.out
       ·exact hb.out t (by omega))⟩,by simp [intOf];omega⟩
     ·have HF:=Ac (Lj (kind:=kind) (vals:=vals) hlt (by rw [HP.out];exact hx))
      have hx':x<0∨1000000000<x:=by unfold Hr at hx;omega
      clear hx
      rcases hx' with hx' | hx'
      ·go_wp2
       go_ret
       exact ⟨Ao (by rw [←HD.out];exact HF.out.symm),g1⟩
      ·have d1:¬ x<0:=by omega
       go_wp2
       go_ret
       exact ⟨Ao (by rw [←HD.out];exact HF.out.symm),g1⟩
    ·obtain rfl:k=steps.length:=by omega
     have HST:=Ac (fun t (ht:t<steps.length)=>hb.out t ht)
     clear hb hvi
     have hW:D=decide (Cc kind vals steps):=by
      rw [←HD.out]
      have:Di kind vals steps↔Cc kind vals steps:=⟨fun h=>h.2.2,fun h=>⟨HA.out,HST.out,h⟩⟩
      simp only [this]
     have HW:=Ac hW
     clear hW
     generalize hlv:vals.length=lv at *
     generalize hls:steps.length=ls at *
     have HLV:=Ac hlv
     have HLS:=Ac hls
     have IR:Hid (IntRow wr (.slice A2 steps.length c2) steps):=Ac (by have:=HS.out.more g1;rw [←hls] at this;exact this)
     rw [hls] at IR
     clear hlv hls
     by_cases h1:kind=1
     ·as_aux_lemma =>
       subst h1
       have HK:Hid (Cc 1 vals steps↔(lv=1∧ls=0)):=Ac (by unfold Cc;rw [if_pos rfl,HLV.out,HLS.out])
       go_wp2_with fail
       go_quiet (fail)
       go_wp2
       all_goals
        go_ret
        exact ⟨Ao (by rw [HW.out,Bool.eq_iff_iff];simp only [HK.out];simp;try omega),Ae g1 (Az _ _ _)⟩
     have t1:(kind==1)=false:=by rw [beq_eq_false_iff_ne];exact h1
     by_cases h2:kind=2
     ·as_aux_lemma =>
       subst h2
       have HK:Hid (Cc 2 vals steps↔(lv=2∧ls=5∧1≤steps.getD 4 0∧steps.getD 1 0+steps.getD 2 0+steps.getD 3 0≤steps.getD 4 0)):=Ac (by unfold Cc;rw [if_neg (by decide),if_pos rfl,HLV.out,HLS.out])
       by_cases hv2:lv=2
       ·have tv:((lv:Int)==2)=true:=by rw [beq_iff_eq];omega
        by_cases hs5:ls=5
        ·have ts:((ls:Int)==5)=true:=by rw [beq_iff_eq];omega
         obtain ⟨b,o,rfl,i4,c4⟩:=IR.out.at (i:=4) (by have:=HLS.out;omega)
         obtain ⟨b',o',e',i3,c3⟩:=IR.out.at (i:=3) (by have:=HLS.out;omega)
         injection e' with e';injection e' with e1 e2 _;subst e1 e2
         obtain ⟨b',o',e',i2,c2'⟩:=IR.out.at (i:=2) (by have:=HLS.out;omega)
         injection e' with e';injection e' with e1 e2 _;subst e1 e2
         obtain ⟨b',o',e',i1,c1'⟩:=IR.out.at (i:=1) (by have:=HLS.out;omega)
         injection e' with e';injection e' with e1 e2 _;subst e1 e2
         obtain ⟨u1,u1'⟩:=HST.out 1 (by have:=HLS.out;omega)
         obtain ⟨u2,u2'⟩:=HST.out 2 (by have:=HLS.out;omega)
         obtain ⟨u3,u3'⟩:=HST.out 3 (by have:=HLS.out;omega)
         obtain ⟨u4,u4'⟩:=HST.out 4 (by have:=HLS.out;omega)
         have f1:(1:Int)<(ls:Int):=by omega
         have f2:(2:Int)<(ls:Int):=by omega
         have f3:(3:Int)<(ls:Int):=by omega
         have f4:(4:Int)<(ls:Int):=by omega
         have HV2:=Ac hv2
         have HS5:=Ac hs5
         clear hv2 hs5 i1 i2 i3 i4
         generalize steps.getD 1 0=x1 at *
         generalize steps.getD 2 0=x2 at *
         generalize steps.getD 3 0=x3 at *
         generalize steps.getD 4 0=x4 at *
         have w1:IntKind.i64.wrap (x1+x2)=x1+x2:=IntWalk.i64_in _ (by omega)
         have w2:IntKind.i64.wrap (x1+x2+x3)=x1+x2+x3:=IntWalk.i64_in _ (by omega)
         have d1:=fun p=>B8 n0 p
         by_cases h4:0<x4
         ·have t4:decide (0<x4)=true:=by rw [decide_eq_true_iff];exact h4
          go_wp2_with fail
          go_quiet (fail)
          go_wp2_with fail
          go_quiet (fail)
          go_wp2
          go_ret
          exact ⟨Ao (by rw [HW.out,Bool.eq_iff_iff];simp only [HK.out,HV2.out,HS5.out];simp;omega),Ae g1 (Ae (Az _ _ _) (Az _ _ _))⟩
         ·have t4:decide (0<x4)=false:=by rw [decide_eq_false_iff_not];exact h4
          go_wp2_with fail
          go_quiet (fail)
          go_wp2_with fail
          go_quiet (fail)
          go_wp2
          go_ret
          exact ⟨Ao (by rw [HW.out,eq_comm,decide_eq_false_iff_not];rw [HK.out];exact fun h=>by have:=h.2.2.1;omega),Ae g1 (Ae (Az _ _ _) (Az _ _ _))⟩
        ·have ts:((ls:Int)==5)=false:=by rw [beq_eq_false_iff_ne];omega
         have HS5:=Ac hs5
         clear hs5
         go_wp2_with fail
         go_quiet (fail)
         go_wp2_with fail
         go_quiet (fail)
         go_wp2
         go_ret
         exact ⟨Ao (by rw [HW.out,eq_comm,decide_eq_false_iff_not];rw [HK.out];exact fun h=>HS5.out h.2.1),Ae g1 (Ae (Az _ _ _) (Az _ _ _))⟩
       ·have tv:((lv:Int)==2)=false:=by rw [beq_eq_false_iff_ne];omega
        have HV2:=Ac hv2
        clear hv2
        go_wp2_with fail
        go_quiet (fail)
        go_wp2_with fail
        go_quiet (fail)
        go_wp2
        go_ret
        exact ⟨Ao (by rw [HW.out,eq_comm,decide_eq_false_iff_not];rw [HK.out];exact fun h=>HV2.out h.1),Ae g1 (Ae (Az _ _ _) (Az _ _ _))⟩
     have t2:(kind==2)=false:=by rw [beq_eq_false_iff_ne];exact h2
     by_cases h3:kind=3
     ·as_aux_lemma =>
       subst h3
       obtain ⟨X,hX⟩:∃ X,decide (∀ i,i<steps.length→1≤i→steps.getD (i-1) 0<steps.getD i 0)=X:=⟨_,rfl⟩
       have HC:=Ac (fun W (h:wr.grownBy W none)=>by have hh:=Ov W _ steps (IR.out.more h);rw [hX] at hh;exact hh)
       have HK:Hid (Cc 3 vals steps↔(X=true∧lv=ls∧1≤lv∧lv≤16)):=Ac (by rw [←hX,decide_eq_true_iff];unfold Cc;rw [if_neg (by decide),if_neg (by decide),if_pos rfl,HLV.out,HLS.out])
       clear hX
       go_wp2_with fail
       go_quiet (fail)
       by_cases hall:lv=ls∧1≤lv∧lv≤16
       ·obtain ⟨e1,e2,e3⟩:=hall
        have HKX:Hid (Cc 3 vals steps↔X=true):=Ac (by rw [HK.out];exact ⟨fun h=>h.1,fun h=>⟨h,e1,e2,e3⟩⟩)
        subst e1
        have d1:decide (1≤(lv:Int))=true:=by rw [decide_eq_true_iff];omega
        have d2:decide ((lv:Int)≤16)=true:=by rw [decide_eq_true_iff];omega
        go_wp2_with fail
        refine (HC.out _ (Az _ _ _)).mono ?_
        rintro e w5 ⟨rfl,hg5⟩
        go_wp2
        go_ret
        exact ⟨Ao (by rw [HW.out];simp only [HKX.out];simp),Ae g1 (Ae (Az _ _ _) hg5)⟩
       ·have HF:Hid (D=false):=Ac (by rw [HW.out,decide_eq_false_iff_not,HK.out];exact fun h=>hall h.2)
        clear HW HK
        by_cases e1:lv=ls
        ·subst e1
         go_wp2_with fail
         all_goals first
          | (go_ret;exact ⟨by rw [HF.out];rfl,Ae g1 (Az _ _ _)⟩)
          | (exfalso;simp at *;omega)
        ·have t:((lv:Int)==(ls:Int))=false:=by rw [beq_eq_false_iff_ne];omega
         go_wp2_with fail
         all_goals
          go_ret
          exact ⟨by rw [HF.out];rfl,Ae g1 (Az _ _ _)⟩
     have t3:(kind==3)=false:=by rw [beq_eq_false_iff_ne];exact h3
     by_cases h4:kind=4
     ·as_aux_lemma =>
       subst h4
       have HK:Hid (Cc 4 vals steps↔(1≤lv∧lv≤16∧ls=0)):=Ac (by unfold Cc;rw [if_neg (by decide),if_neg (by decide),if_neg (by decide),if_pos rfl,HLV.out,HLS.out])
       go_wp2_with fail
       go_quiet (fail)
       go_wp2
       all_goals
        go_ret
        exact ⟨Ao (by rw [HW.out,Bool.eq_iff_iff];simp only [HK.out];simp;try omega),Ae g1 (Az _ _ _)⟩
     have t4:(kind==4)=false:=by rw [beq_eq_false_iff_ne];exact h4
     have hK:¬ Cc kind vals steps:=by unfold Cc;rw [if_neg h1,if_neg h2,if_neg h3,if_neg h4];exact fun h=>h
     have HK:=Ac hK
     clear hK h1 h2 h3 h4
     go_wp2_with fail
     go_quiet (fail)
     go_wp2
     all_goals
      go_ret
      exact ⟨Ao (by rw [HW.out,eq_comm,decide_eq_false_iff_not];exact HK.out),Ae g1 (Az _ _ _)⟩
end
section
open Go.RowKit Go.Maps
def kRef (K:Int):Bool:=decide (K=102)||decide (K=104)
def kSrc (K:Int):Bool:=decide (K=118)||decide (K=105)
def kMod (K:Int):Bool:=decide (K=100)||decide (K=115)
def kVal (K:Int):Bool:=!(kSrc K||kMod K)
def kRcl (K:Int):Bool:=decide (K=114)||decide (K=99)||decide (K=108)
def Dy (ds:List DevP) (d:DevP) (r:Bool):Bool:=if r then decide (0≤d.ref)&&decide (d.ref<ds.length)&&decide ((ds.getD d.ref.toNat dev0).kind=118) else decide (d.ref=0)
def Hz (d:DevP) (v:Bool):Bool:=if v then Bu d.val else valZ d.val
def Fz (d:DevP) (s:Bool):Bool:=if s then decide (Di d.wkind d.wvals d.wsteps) else Cj d.wkind d.wvals.length d.wsteps.length
def En (d:DevP) (m:Bool):Bool:=if m then Bk d.mname.data.toList d.mkind d.mg d.mv&&decide (d.mkind=d.kind) else Ci d.mname d.mkind d.mg.length d.mv.length
def M5 (nn:Nat) (N:Int) (ds:List DevP) (d:DevP) (r v s m:Bool):Bool:=decide ((d.nodes.length:Int)=N)&&D3 d.name&&Gx nn d.nodes&&Dy ds d r&&Hz d v&&Fz d s&&En d m
theorem Yn {nn:Nat} {ds:List DevP} {d:DevP} (h:Cl d.kind=0):devB nn ds d=false:=by simp [devB,h]
theorem Yo {nn:Nat} {ds:List DevP} {d:DevP} (h:kRcl d.kind=true) (hz:d.val.1=0):devB nn ds d=false:=by
 have:G4 ds d=false:=by
  unfold G4
  simp only [kRcl,Bool.or_eq_true,decide_eq_true_eq] at h
  rw [if_neg (by omega),if_neg (by omega),if_neg (by omega),hz]
  rcases h with (h | h) | h<;>rw [h]<;>simp
 simp [devB,this]
theorem Ue {nn:Nat} {ds:List DevP} {d:DevP} (h:Cl d.kind≠0) (hz:kRcl d.kind=true→d.val.1≠0) :
  devB nn ds d=M5 nn (Cl d.kind) ds d (kRef d.kind) (kVal d.kind) (kSrc d.kind) (kMod d.kind):=by
 have key:G4 ds d=(Dy ds d (kRef d.kind)&&Hz d (kVal d.kind)&&Fz d (kSrc d.kind)&&En d (kMod d.kind)):=by
  unfold G4 Dy Hz Fz En kVal
  by_cases h1:d.kind=118∨d.kind=105
  ·rw [if_pos h1]
   have e1:kSrc d.kind=true:=by simp [kSrc,h1]
   have e2:kRef d.kind=false:=by simp [kRef];omega
   have e3:kMod d.kind=false:=by simp [kMod];omega
   rw [e1,e2,e3]
   simp only [Bool.true_or,Bool.not_true,if_true]
   simp only [Bool.false_eq_true,if_false]
   cases decide (d.ref=0)<;>cases valZ d.val<;>cases decide (Di d.wkind d.wvals d.wsteps)<;>simp
  ·rw [if_neg h1]
   have e1:kSrc d.kind=false:=by simp [kSrc];omega
   by_cases h2:d.kind=100∨d.kind=115
   ·rw [if_pos h2]
    have e2:kRef d.kind=false:=by simp [kRef];omega
    have e3:kMod d.kind=true:=by simp [kMod,h2]
    rw [e1,e2,e3]
    simp only [Bool.or_true,Bool.not_true,if_true]
    simp only [Bool.false_eq_true,if_false]
    cases decide (d.ref=0)<;>cases valZ d.val<;>cases Cj d.wkind d.wvals.length d.wsteps.length<;>simp
   ·rw [if_neg h2]
    have e3:kMod d.kind=false:=by simp [kMod];omega
    rw [e1,e3]
    simp only [Bool.or_false,Bool.not_false,if_true]
    simp only [Bool.false_eq_true,if_false]
    have e4:(decide (d.val.1≠0)||!(decide (d.kind=114)||decide (d.kind=99)||decide (d.kind=108)))=true:=by
     by_cases hk:kRcl d.kind=true
     ·simp [hz hk]
     ·have:kRcl d.kind=false:=by simpa using hk
      unfold kRcl at this
      rw [this];simp
    rw [e4]
    by_cases h3:d.kind=102∨d.kind=104
    ·have e2:kRef d.kind=true:=by simp [kRef,h3]
     rw [if_pos h3,e2]
     simp only [if_true,Bool.and_true]
    ·have e2:kRef d.kind=false:=by simp [kRef];omega
     rw [if_neg h3,e2]
     simp only [Bool.false_eq_true,if_false,Bool.and_true]
 unfold devB M5
 rw [key,decide_eq_true h,Bool.true_and]
 simp only [Bool.and_assoc]
theorem Lw (k:Int) (v:List (Int × Int)) (s:List Int):decide (k=0∧s=[]∧v=[])=Cj k v.length s.length:=by
 rw [Bool.eq_iff_iff]
 simp only [Cj,decide_eq_true_eq,Bool.and_eq_true]
 constructor
 ·rintro ⟨rfl,rfl,rfl⟩;exact ⟨rfl,rfl⟩
 ·rintro ⟨h1,h2⟩;exact ⟨h1,List.eq_nil_of_length_eq_zero (by omega),List.eq_nil_of_length_eq_zero (by omega)⟩
theorem Kd (n:ByteArray) (k:Int) (g u:List (Int × Int)):decide (n=ByteArray.empty∧k=0∧g=[]∧u=[])=Ci n k g.length u.length:=by
 rw [Bool.eq_iff_iff]
 simp only [Ci,decide_eq_true_eq,Bool.and_eq_true]
 constructor
 ·rintro ⟨rfl,rfl,rfl,rfl⟩;exact ⟨⟨rfl,rfl⟩,rfl⟩
 ·rintro ⟨⟨h0,h1⟩,h2⟩
  refine ⟨ByteArray.ext (Array.toList_inj.1 h0),h1,List.eq_nil_of_length_eq_zero (by omega),List.eq_nil_of_length_eq_zero (by omega)⟩
theorem L9 {K:Int} (h:Cl K≠0):K=114∨K=99∨K=108∨K=118∨K=105∨K=101∨K=103∨K=116∨K=102∨K=104∨K=100∨K=115:=by
 refine Decidable.byContradiction fun hn=>h ?_
 simp only [not_or] at hn
 obtain ⟨k1,k2,k3,k4,k5,k6,k7,k8,k9,k10,k11,k12⟩:=hn
 simp [Cl,k1,k2,k3,k4,k5,k6,k7,k8,k9,k10,k11,k12]
theorem Uh {K:Int} (h:Cl K≠0):(kRef K=true∧kVal K=true∧kSrc K=false∧kMod K=false)∨(kRef K=false∧kVal K=true∧kSrc K=false∧kMod K=false)∨(kRef K=false∧kVal K=false∧kSrc K=true∧kMod K=false)∨(kRef K=false∧kVal K=false∧kSrc K=false∧kMod K=true):=by
 rcases L9 h with rfl | rfl | rfl | rfl | rfl | rfl | rfl | rfl | rfl | rfl | rfl | rfl<;>simp [kRef,kVal,kSrc,kMod]
theorem O2 (W:World):IntRow W (.slice none 0 0) []:=⟨none,0,rfl,Nat.le_refl _,by omega,by simp,fun h=>by simp at h⟩
theorem Fe (W:World):NumRow W (.slice none 0 0) []:=⟨none,0,rfl,Nat.le_refl _,by omega,by simp,fun h=>by simp at h⟩
set_option maxRecDepth 100000 in
theorem Qa (w:World) (A1:Option Addr) (c1:Nat) (A2:Option Addr) (c2:Nat) (s1 s2 me:Int) (nodes:List ByteArray) (ds:List DevP) (d:DevP) (An:Option Addr) (cn:Nat) (Av:Option Addr) (cv:Nat) (As:Option Addr) (cs:Nat) (Ag:Option Addr) (cg:Nat) (Am:Option Addr) (cm:Nat)
  (hl1:nodes.length≤1099511627776) (hl2:ds.length≤1099511627776) (hd:DevRow w (.slice A2 ds.length c2) ds) (hat:DevAt w d An cn Av cv As cs Ag cg Am cm) (hmn:d.mname.size≤4611686018427387904) :
  Calls Tryz.prog 93 #[.agg #[.slice A1 nodes.length c1,.slice A2 ds.length c2,.int .i64 s1,.int .i64 s2,.int .i64 me],.agg #[.int .u8 d.kind,.string d.name,.slice An d.nodes.length cn,.int .i64 d.ref,.int .i64 d.val.1,.int .i64 d.val.2,.int .i64 d.wkind,.slice Av d.wvals.length cv,.slice As d.wsteps.length cs,.string d.mname,.int .u8 d.mkind,.slice Ag d.mg.length cg,.slice Am d.mv.length cm]] w fun e w'=>e=.returned (.bool (devB nodes.length ds d))∧w.grownBy w' none:=by
 have g1:=Af w (.cells #[.slice A1 nodes.length c1,.slice A2 ds.length c2,.int .i64 s1,.int .i64 s2,.int .i64 me] 27) none
 have g2:=Af (w.alloc (.cells #[.slice A1 nodes.length c1,.slice A2 ds.length c2,.int .i64 s1,.int .i64 s2,.int .i64 me] 27)) (.cells #[.int .u8 d.kind,.string d.name,.slice An d.nodes.length cn,.int .i64 d.ref,.int .i64 d.val.1,.int .i64 d.val.2,.int .i64 d.wkind,.slice Av d.wvals.length cv,.slice As d.wsteps.length cs,.string d.mname,.int .u8 d.mkind,.slice Ag d.mg.length cg,.slice Am d.mv.length cm] 89) none
 have hB:=(Blk.new w #[.slice A1 nodes.length c1,.slice A2 ds.length c2,.int .i64 s1,.int .i64 s2,.int .i64 me] 27).more g2
 have hD:=DevBox.of (Blk.new (w.alloc (.cells #[.slice A1 nodes.length c1,.slice A2 ds.length c2,.int .i64 s1,.int .i64 s2,.int .i64 me] 27)) #[.int .u8 d.kind,.string d.name,.slice An d.nodes.length cn,.int .i64 d.ref,.int .i64 d.val.1,.int .i64 d.val.2,.int .i64 d.wkind,.slice Av d.wvals.length cv,.slice As d.wsteps.length cs,.string d.mname,.int .u8 d.mkind,.slice Ag d.mg.length cg,.slice Am d.mv.length cm] 89)
 rw [World.size_alloc] at hD
 have gw:=Ae g1 g2
 have m0:=hB.cell 0
 have m1:=hB.cell 1
 simp only [List.getElem?_toArray,List.getElem?_cons_zero,List.getElem?_cons_succ] at m0 m1
 have hd':=hd.more gw
 have hat':=hat.more gw
 obtain ⟨D,hDD⟩:∃ D,devB nodes.length ds d=D:=⟨_,rfl⟩
 rw [hDD]
 have HDV:=Ac hDD
 have HBX:=Ac hD
 have HGW:=Ac gw
 have HAT:=Ac hat'
 have HDS:=Ac hd'
 have HMN:=Ac hmn
 have HM01:=Ac (And.intro m0 m1)
 obtain ⟨p0,p1,p2,p3,p4,p5,p6,p7,p8,p9,p10,p11,p12⟩:=hD
 clear hDD hB hd hat g1 g2 gw hd' hat' hmn
 go_enter Tryz.func93,Tryz.ntmps93
 go_upto_block 0 with (fail)
 generalize (w.alloc (.cells #[.slice A1 nodes.length c1,.slice A2 ds.length c2,.int .i64 s1,.int .i64 s2,.int .i64 me] 27)).alloc (.cells #[.int .u8 d.kind,.string d.name,.slice An d.nodes.length cn,.int .i64 d.ref,.int .i64 d.val.1,.int .i64 d.val.2,.int .i64 d.wkind,.slice Av d.wvals.length cv,.slice As d.wsteps.length cs,.string d.mname,.int .u8 d.mkind,.slice Ag d.mg.length cg,.slice Am d.mv.length cm] 89)=wa at *
 generalize w.heap.size=s at *
 generalize hK:d.kind=K at *
 have HK:Hid (K=d.kind):=Ac hK.symm
 clear hK
 by_cases hn0:Cl K=0
 ·have HF:Hid (D=false):=Ac (by rw [←HDV.out];exact Yn (by rw [←HK.out];exact hn0))
  have hk:=show K≠114∧K≠99∧K≠108∧K≠118∧K≠105∧K≠101∧K≠103∧K≠116∧K≠102∧K≠104∧K≠100∧K≠115 by
   refine ⟨?_,?_,?_,?_,?_,?_,?_,?_,?_,?_,?_,?_⟩<;>(intro e;subst e;exact absurd hn0 (by decide))
  obtain ⟨k1,k2,k3,k4,k5,k6,k7,k8,k9,k10,k11,k12⟩:=hk
  have t1:(K==114)=false:=by rw [beq_eq_false_iff_ne];exact k1
  have t2:(K==99)=false:=by rw [beq_eq_false_iff_ne];exact k2
  have t3:(K==108)=false:=by rw [beq_eq_false_iff_ne];exact k3
  have t4:(K==118)=false:=by rw [beq_eq_false_iff_ne];exact k4
  have t5:(K==105)=false:=by rw [beq_eq_false_iff_ne];exact k5
  have t6:(K==101)=false:=by rw [beq_eq_false_iff_ne];exact k6
  have t7:(K==103)=false:=by rw [beq_eq_false_iff_ne];exact k7
  have t8:(K==116)=false:=by rw [beq_eq_false_iff_ne];exact k8
  have t9:(K==102)=false:=by rw [beq_eq_false_iff_ne];exact k9
  have t10:(K==104)=false:=by rw [beq_eq_false_iff_ne];exact k10
  have t11:(K==100)=false:=by rw [beq_eq_false_iff_ne];exact k11
  have t12:(K==115)=false:=by rw [beq_eq_false_iff_ne];exact k12
  clear hn0 k1 k2 k3 k4 k5 k6 k7 k8 k9 k10 k11 k12
  go_wp2_with fail
  go_ret
  exact ⟨Ao (by rw [HF.out]),HGW.out⟩
 by_cases hrc:kRcl K=true∧d.val.1=0
 ·have HF:Hid (D=false):=Ac (by rw [←HDV.out];exact Yo (by rw [←HK.out];exact hrc.1) hrc.2)
  have tz:(d.val.1==0)=true:=by rw [beq_iff_eq];exact hrc.2
  have hk:K=114∨K=99∨K=108:=by
   have:=hrc.1
   simp only [kRcl,Bool.or_eq_true,decide_eq_true_eq] at this
   omega
  clear hrc hn0 HK
  rcases hk with rfl | rfl | rfl
  all_goals
   go_wp2_with fail
   go_ret
   exact ⟨Ao (by rw [HF.out]),HGW.out⟩
 obtain ⟨N,hN⟩:∃ N,Cl K=N:=⟨_,rfl⟩
 obtain ⟨R,hR⟩:∃ R,kRef K=R:=⟨_,rfl⟩
 obtain ⟨V,hV⟩:∃ V,kVal K=V:=⟨_,rfl⟩
 obtain ⟨S,hS⟩:∃ S,kSrc K=S:=⟨_,rfl⟩
 obtain ⟨M,hM⟩:∃ M,kMod K=M:=⟨_,rfl⟩
 have HDD:Hid (D=M5 nodes.length N ds d R V S M):=Ac (by
  rw [←HDV.out,←hN,←hR,←hV,←hS,←hM,HK.out]
  exact Ue (by rw [←HK.out];exact hn0) fun h h0=>hrc ⟨by rw [HK.out];exact h,h0⟩)
 have HFC:=Ac (Uh hn0)
 rw [hR,hV,hS,hM] at HFC
 have HFL:Hid (Cl K=N∧kRef K=R∧kVal K=V∧kSrc K=S∧kMod K=M):=Ac ⟨hN,hR,hV,hS,hM⟩
 have HRZ:Hid (kRcl K=true→(d.val.1==0)=false):=Ac fun h=>by rw [beq_eq_false_iff_ne];exact fun h0=>hrc ⟨h,h0⟩
 have HKC:=Ac (L9 hn0)
 clear hN hR hV hS hM hrc hn0 HDV
 go_cut [5,6,7,8,9] (fun a b c d e wx=>a=.int .i64 N∧b=.bool R∧c=.bool V∧d=.bool S∧e=.bool M∧wx=wa)
 case first =>
  rcases HKC.out with h | h | h | h | h | h | h | h | h | h | h | h
  all_goals
   subst h
   have hz:=HRZ.out
   simp only [kRcl] at hz
   go_wp2_with fail
   go_meet
   obtain ⟨rfl,rfl,rfl,rfl,rfl⟩:=HFL.out
   exact ⟨rfl,rfl,rfl,rfl,rfl,rfl⟩
 case rest =>
  obtain ⟨rfl,rfl,rfl,rfl,rfl,rfl⟩:=hcut
  by_cases hnl:(d.nodes.length:Int)=N
  ·subst hnl
   have t1:((d.nodes.length:Int) != (d.nodes.length:Int))=false:=by simp
   have hnm:=HAT.out.name
   go_wp2_with fail
   refine (Ma wc d.name (by omega)).mono ?_
   rintro e w1 ⟨rfl,hg1⟩
   cases hlg:D3 d.name with
   | false =>
    have HF:Hid (D=false):=Ac (by rw [HDD.out];simp [M5,hlg])
    clear hlg
    go_wp2_with fail
    go_ret
    exact ⟨Ao (by rw [HF.out]),Ae HGW.out hg1⟩
   | true =>
    have HD2:Hid (D=(Gx nodes.length d.nodes&&(Dy ds d R&&Hz d V&&Fz d S&&En d M))):=Ac (by rw [HDD.out];simp [M5,hlg,Bool.and_assoc])
    clear hlg t1 hnm
    have HBX:=Ac (HBX.out.more hg1)
    have HAT:=Ac (HAT.out.more hg1)
    have HDS:=Ac (HDS.out.more hg1)
    have HGW:=Ac (Ae HGW.out hg1)
    have HM01:Hid (w1.cell? ⟨s,0,none⟩=some (.slice A1 nodes.length c1)∧w1.cell? ⟨s,1,none⟩=some (.slice A2 ds.length c2)):=Ac ⟨Aj hg1 HM01.out.1 (by simp),Aj hg1 HM01.out.2 (by simp)⟩
    have hln:d.nodes.length≤140737488355328:=HAT.out.small.1
    clear p0 p1 p2 p3 p4 p5 p6 p7 p8 p9 p10 p11 p12 m0 m1 hg1
    go_wp2_with fail
    go_loopw [10] (fun i wr=>∃ k:Nat,k≤d.nodes.length∧i=.int .i64 k∧w1.grownBy wr none∧Hid (∀ t,t<k→0≤d.nodes.getD t 0∧d.nodes.getD t 0<(nodes.length:Int))) (fun i _=>(d.nodes.length-intOf i).toNat)
    case atStart=>exact ⟨0,by omega,rfl,Al _ _,Ac (fun t ht=>by omega)⟩
    case round =>
     obtain ⟨k,hk,rfl,hg,hb⟩:=hrel
     have p2:=(HBX.out.more hg).c2
     have m0:=Aj hg HM01.out.1 (by simp)
     have HG:=Ac hg
     by_cases hlt:k<d.nodes.length
     ·obtain ⟨b,o,rfl,⟨u1,u2⟩,q0⟩:=(HAT.out.nodes.more hg).at hlt
      have hki:(k:Int)<(d.nodes.length:Int):=by omega
      have hno:=fun h=>Sn (nn:=nodes.length) hlt h
      have HNO:=Ac hno
      have HLT:=Ac hlt
      clear hno
      generalize hp:d.nodes.getD k 0=x at *
      have HP:=Ac hp
      clear hp hg hlt
      by_cases hx0:x<0
      ·have d1:decide (x<0)=true:=by rw [decide_eq_true_iff];exact hx0
       have HF:Hid (D=false):=Ac (by rw [HD2.out,HNO.out (by omega)];rfl)
       clear hx0
       go_wp2_with fail
       go_quiet (fail)
       go_wp2_with fail
       go_ret
       exact ⟨Ao (by rw [HF.out]),Ae HGW.out (Ae HG.out (Az _ _ _))⟩
      ·have d1:decide (x<0)=false:=by rw [decide_eq_false_iff_not];exact hx0
       by_cases hx1:(nodes.length:Int)≤x
       ·have d2:decide ((nodes.length:Int)≤x)=true:=by rw [decide_eq_true_iff];exact hx1
        have HF:Hid (D=false):=Ac (by rw [HD2.out,HNO.out (by omega)];rfl)
        clear hx0 hx1
        go_wp2_with fail
        go_quiet (fail)
        go_wp2_with fail
        go_ret
        exact ⟨Ao (by rw [HF.out]),Ae HGW.out (Ae HG.out (Az _ _ _))⟩
       ·have d2:decide ((nodes.length:Int)≤x)=false:=by rw [decide_eq_false_iff_not];exact hx1
        have HX:Hid (0≤x∧x<(nodes.length:Int)):=Ac (by omega)
        clear hx0 hx1
        go_wp2_with fail
        go_quiet (fail)
        go_wp2_with fail
        exact ⟨⟨k+1,by omega,by go_num,Ae HG.out (Az _ _ _),Ac (fun t ht=>by
         by_cases htk:t=k
         ·subst htk;rw [HP.out];exact HX.out
         ·exact hb.out t (by omega))⟩,by simp [intOf];omega⟩
     ·obtain rfl:k=d.nodes.length:=by omega
      have HDD:Hid (D=(Dy ds d R&&Hz d V&&Fz d S&&En d M)):=Ac (by
       rw [HD2.out]
       have:Gx nodes.length d.nodes=true:=by unfold Gx;rw [decide_eq_true_iff];exact hb.out
       rw [this];simp)
      have HBX:=Ac (HBX.out.more hg)
      have HAT:=Ac (HAT.out.more hg)
      have HDS:=Ac (HDS.out.more hg)
      have HGW:=Ac (Ae HGW.out hg)
      have m1:=Aj hg HM01.out.2 (by simp)
      have HM1:=Ac m1
      clear hb hk hlt HD2 HM01 m0 hg hln p2 HG
      obtain ⟨p0,p1,p2,p3,p4,p5,p6,p7,p8,p9,p10,p11,p12⟩:=HBX.out
      rcases HFC.out with ⟨rfl,rfl,rfl,rfl⟩ | ⟨rfl,rfl,rfl,rfl⟩ | ⟨rfl,rfl,rfl,rfl⟩ | ⟨rfl,rfl,rfl,rfl⟩
      ·as_aux_lemma =>
        by_cases r0:d.ref<0
        ·have HF:Hid (D=false):=Ac (by rw [HDD.out,show Dy ds d true=false by unfold Dy;rw [if_pos rfl,decide_eq_false (show ¬ 0≤d.ref by omega)];rfl];rfl)
         go_wp2_with fail
         go_ret
         exact ⟨Ao (by rw [HF.out]),HGW.out⟩
        by_cases r1:(ds.length:Int)≤d.ref
        ·have HF:Hid (D=false):=Ac (by rw [HDD.out,show Dy ds d true=false by unfold Dy;rw [if_pos rfl,decide_eq_false (show ¬ d.ref<(ds.length:Int) by omega),Bool.and_false];rfl];rfl)
         go_wp2_with fail
         go_ret
         exact ⟨Ao (by rw [HF.out]),HGW.out⟩
        have r2:(0:Int)≤d.ref:=by omega
        have r3:d.ref<(ds.length:Int):=by omega
        obtain ⟨b',o',_,_,_,_,_,_,_,_,_,_,rfl,_,hc'⟩:=HDS.out.at2 (i:=d.ref.toNat) (by omega)
        have q0:=hc'.c0
        generalize hkr:(ds.getD d.ref.toNat dev0).kind=kr at *
        have HKR:=Ac hkr
        clear hkr hc'
        by_cases hv:kr=118
        rotate_left
        ·have tv2:(kr != 118)=true:=by rw [bne_iff_ne];exact hv
         have HF:Hid (D=false):=Ac (by rw [HDD.out,show Dy ds d true=false by unfold Dy;rw [if_pos rfl,HKR.out,decide_eq_false hv,Bool.and_false]];rfl)
         clear hv
         go_wp2_with fail
         go_ret
         exact ⟨Ao (by rw [HF.out]),HGW.out⟩
        have tv2:(kr != 118)=false:=by rw [bne_eq_false_iff_eq];exact hv
        have HDD:Hid (D=(Hz d true&&(Fz d false&&En d false))):=Ac (by rw [HDD.out,show Dy ds d true=true by unfold Dy;rw [if_pos rfl,HKR.out,decide_eq_true hv,decide_eq_true r2,decide_eq_true r3];rfl];simp [Bool.and_assoc])
        clear hv
        have hC:=Df wr d.val.1 d.val.2 HAT.out.v1.1 HAT.out.v1.2 HAT.out.v2.1 HAT.out.v2.2
        obtain ⟨Nv,hNv⟩:∃ Nv,decide (NumOK d.val.1 d.val.2)=Nv:=⟨_,rfl⟩
        rw [hNv] at hC
        have HNv:Hid (Hz d true=Nv):=Ac hNv
        have HC:=Ac hC
        clear hNv hC
        go_wp2_with fail
        refine HC.out.mono ?_
        rintro e w4 ⟨rfl,hg4⟩
        rcases Nv with _ | _
        ·have HF:Hid (D=false):=Ac (by rw [HDD.out,HNv.out];rfl)
         go_wp2_with fail
         go_ret
         exact ⟨Ao (by rw [HF.out]),Ae HGW.out hg4⟩
        have HDD:Hid (D=(Fz d false&&En d false)):=Ac (by rw [HDD.out,HNv.out];rfl)
        have HBX:=Ac (HBX.out.more hg4)
        have HAT:=Ac (HAT.out.more hg4)
        have HGW:=Ac (Ae HGW.out hg4)
        clear HC HNv p0 p1 p2 p3 p4 p5 p6 p7 p8 p9 p10 p11 p12 hg4
        obtain ⟨p0,p1,p2,p3,p4,p5,p6,p7,p8,p9,p10,p11,p12⟩:=HBX.out
        have hC:=I8 w4 d.wkind 0 _ _ (.slice none 0 0) (.slice none 0 0) d.wvals [] d.wsteps [] HAT.out.vals HAT.out.steps (Fe _) (O2 _)
        rw [Lw] at hC
        obtain ⟨Wv,hWv⟩:∃ Wv,Cj d.wkind d.wvals.length d.wsteps.length=Wv:=⟨_,rfl⟩
        rw [hWv] at hC
        have HWv:Hid (Fz d false=Wv):=Ac hWv
        have HC:=Ac hC
        clear hC hWv
        go_wp2_with fail
        refine HC.out.mono ?_
        rintro e w5 ⟨rfl,hg5⟩
        rcases Wv with _ | _
        ·have HF:Hid (D=false):=Ac (by rw [HDD.out,HWv.out];rfl)
         go_wp2_with fail
         go_ret
         exact ⟨Ao (by rw [HF.out]),Ae HGW.out hg5⟩
        have HDD:Hid (D=En d false):=Ac (by rw [HDD.out,HWv.out];rfl)
        have HBX:=Ac (HBX.out.more hg5)
        have HAT:=Ac (HAT.out.more hg5)
        have HGW:=Ac (Ae HGW.out hg5)
        clear HC HWv p0 p1 p2 p3 p4 p5 p6 p7 p8 p9 p10 p11 p12 hg5
        obtain ⟨p0,p1,p2,p3,p4,p5,p6,p7,p8,p9,p10,p11,p12⟩:=HBX.out
        have hC:=I6 w5 d.mname ByteArray.empty d.mkind 0 _ _ (.slice none 0 0) (.slice none 0 0) d.mg [] d.mv [] HAT.out.g HAT.out.v (Fe _) (Fe _)
        rw [Kd] at hC
        obtain ⟨Mv,hMv⟩:∃ Mv,Ci d.mname d.mkind d.mg.length d.mv.length=Mv:=⟨_,rfl⟩
        rw [hMv] at hC
        have HMv:Hid (En d false=Mv):=Ac hMv
        have HC:=Ac hC
        clear hC hMv
        go_wp2_with fail
        refine HC.out.mono ?_
        rintro e w6 ⟨rfl,hg6⟩
        go_wp2_with fail
        go_ret
        exact ⟨Ao (by rw [HDD.out,HMv.out]),Ae HGW.out hg6⟩
      ·as_aux_lemma =>
        by_cases hr:d.ref=0
        rotate_left
        ·have tr:(d.ref != 0)=true:=by rw [bne_iff_ne];exact hr
         have HF:Hid (D=false):=Ac (by rw [HDD.out,show Dy ds d false=false by unfold Dy;rw [if_neg (by decide),decide_eq_false hr]];rfl)
         clear hr
         go_wp2_with fail
         go_ret
         exact ⟨Ao (by rw [HF.out]),HGW.out⟩
        have tr:(d.ref != 0)=false:=by rw [bne_eq_false_iff_eq];exact hr
        have HDD:Hid (D=(Hz d true&&(Fz d false&&En d false))):=Ac (by rw [HDD.out,show Dy ds d false=true by unfold Dy;rw [if_neg (by decide),decide_eq_true hr]];simp [Bool.and_assoc])
        clear hr
        have hC:=Df wr d.val.1 d.val.2 HAT.out.v1.1 HAT.out.v1.2 HAT.out.v2.1 HAT.out.v2.2
        obtain ⟨Nv,hNv⟩:∃ Nv,decide (NumOK d.val.1 d.val.2)=Nv:=⟨_,rfl⟩
        rw [hNv] at hC
        have HNv:Hid (Hz d true=Nv):=Ac hNv
        have HC:=Ac hC
        clear hNv hC
        go_wp2_with fail
        refine HC.out.mono ?_
        rintro e w4 ⟨rfl,hg4⟩
        rcases Nv with _ | _
        ·have HF:Hid (D=false):=Ac (by rw [HDD.out,HNv.out];rfl)
         go_wp2_with fail
         go_ret
         exact ⟨Ao (by rw [HF.out]),Ae HGW.out hg4⟩
        have HDD:Hid (D=(Fz d false&&En d false)):=Ac (by rw [HDD.out,HNv.out];rfl)
        have HBX:=Ac (HBX.out.more hg4)
        have HAT:=Ac (HAT.out.more hg4)
        have HGW:=Ac (Ae HGW.out hg4)
        clear HC HNv p0 p1 p2 p3 p4 p5 p6 p7 p8 p9 p10 p11 p12 hg4
        obtain ⟨p0,p1,p2,p3,p4,p5,p6,p7,p8,p9,p10,p11,p12⟩:=HBX.out
        have hC:=I8 w4 d.wkind 0 _ _ (.slice none 0 0) (.slice none 0 0) d.wvals [] d.wsteps [] HAT.out.vals HAT.out.steps (Fe _) (O2 _)
        rw [Lw] at hC
        obtain ⟨Wv,hWv⟩:∃ Wv,Cj d.wkind d.wvals.length d.wsteps.length=Wv:=⟨_,rfl⟩
        rw [hWv] at hC
        have HWv:Hid (Fz d false=Wv):=Ac hWv
        have HC:=Ac hC
        clear hC hWv
        go_wp2_with fail
        refine HC.out.mono ?_
        rintro e w5 ⟨rfl,hg5⟩
        rcases Wv with _ | _
        ·have HF:Hid (D=false):=Ac (by rw [HDD.out,HWv.out];rfl)
         go_wp2_with fail
         go_ret
         exact ⟨Ao (by rw [HF.out]),Ae HGW.out hg5⟩
        have HDD:Hid (D=En d false):=Ac (by rw [HDD.out,HWv.out];rfl)
        have HBX:=Ac (HBX.out.more hg5)
        have HAT:=Ac (HAT.out.more hg5)
        have HGW:=Ac (Ae HGW.out hg5)
        clear HC HWv p0 p1 p2 p3 p4 p5 p6 p7 p8 p9 p10 p11 p12 hg5
        obtain ⟨p0,p1,p2,p3,p4,p5,p6,p7,p8,p9,p10,p11,p12⟩:=HBX.out
        have hC:=I6 w5 d.mname ByteArray.empty d.mkind 0 _ _ (.slice none 0 0) (.slice none 0 0) d.mg [] d.mv [] HAT.out.g HAT.out.v (Fe _) (Fe _)
        rw [Kd] at hC
        obtain ⟨Mv,hMv⟩:∃ Mv,Ci d.mname d.mkind d.mg.length d.mv.length=Mv:=⟨_,rfl⟩
        rw [hMv] at hC
        have HMv:Hid (En d false=Mv):=Ac hMv
        have HC:=Ac hC
        clear hC hMv
        go_wp2_with fail
        refine HC.out.mono ?_
        rintro e w6 ⟨rfl,hg6⟩
        go_wp2_with fail
        go_ret
        exact ⟨Ao (by rw [HDD.out,HMv.out]),Ae HGW.out hg6⟩
      ·as_aux_lemma =>
        by_cases hr:d.ref=0
        rotate_left
        ·have tr:(d.ref != 0)=true:=by rw [bne_iff_ne];exact hr
         have HF:Hid (D=false):=Ac (by rw [HDD.out,show Dy ds d false=false by unfold Dy;rw [if_neg (by decide),decide_eq_false hr]];rfl)
         clear hr
         go_wp2_with fail
         go_ret
         exact ⟨Ao (by rw [HF.out]),HGW.out⟩
        have tr:(d.ref != 0)=false:=by rw [bne_eq_false_iff_eq];exact hr
        have HDD:Hid (D=(Hz d false&&(Fz d true&&En d false))):=Ac (by rw [HDD.out,show Dy ds d false=true by unfold Dy;rw [if_neg (by decide),decide_eq_true hr]];simp [Bool.and_assoc])
        clear hr
        obtain ⟨Z,hZ⟩:∃ Z,valZ d.val=Z:=⟨_,rfl⟩
        have HZ:Hid (Hz d false=Z):=Ac hZ
        have eqn:=fun W=>Yt d.val.1 d.val.2 0 0 W
        have gdn:=Z3
        rw [show (d.val.1==0&&d.val.2==0)=Z by rw [←hZ];rfl] at eqn
        clear hZ
        rcases Z with _ | _
        ·have HF:Hid (D=false):=Ac (by rw [HDD.out,HZ.out];rfl)
         go_wp2_with fail
         go_ret
         exact ⟨Ao (by rw [HF.out]),HGW.out⟩
        have HDD:Hid (D=(Fz d true&&En d false)):=Ac (by rw [HDD.out,HZ.out];rfl)
        clear HZ
        have hC:=Ou wr d.wkind _ _ d.wvals d.wsteps HAT.out.vals HAT.out.steps
        obtain ⟨Wv,hWv⟩:∃ Wv,decide (Di d.wkind d.wvals d.wsteps)=Wv:=⟨_,rfl⟩
        rw [hWv] at hC
        have HWv:Hid (Fz d true=Wv):=Ac hWv
        have HC:=Ac hC
        clear hC hWv
        go_wp2_with fail
        refine HC.out.mono ?_
        rintro e w5 ⟨rfl,hg5⟩
        rcases Wv with _ | _
        ·have HF:Hid (D=false):=Ac (by rw [HDD.out,HWv.out];rfl)
         go_wp2_with fail
         go_ret
         exact ⟨Ao (by rw [HF.out]),Ae HGW.out hg5⟩
        have HDD:Hid (D=En d false):=Ac (by rw [HDD.out,HWv.out];rfl)
        have HBX:=Ac (HBX.out.more hg5)
        have HAT:=Ac (HAT.out.more hg5)
        have HGW:=Ac (Ae HGW.out hg5)
        clear HC HWv p0 p1 p2 p3 p4 p5 p6 p7 p8 p9 p10 p11 p12 hg5
        obtain ⟨p0,p1,p2,p3,p4,p5,p6,p7,p8,p9,p10,p11,p12⟩:=HBX.out
        have hC:=I6 w5 d.mname ByteArray.empty d.mkind 0 _ _ (.slice none 0 0) (.slice none 0 0) d.mg [] d.mv [] HAT.out.g HAT.out.v (Fe _) (Fe _)
        rw [Kd] at hC
        obtain ⟨Mv,hMv⟩:∃ Mv,Ci d.mname d.mkind d.mg.length d.mv.length=Mv:=⟨_,rfl⟩
        rw [hMv] at hC
        have HMv:Hid (En d false=Mv):=Ac hMv
        have HC:=Ac hC
        clear hC hMv
        go_wp2_with fail
        refine HC.out.mono ?_
        rintro e w6 ⟨rfl,hg6⟩
        go_wp2_with fail
        go_ret
        exact ⟨Ao (by rw [HDD.out,HMv.out]),Ae HGW.out hg6⟩
      ·as_aux_lemma =>
        by_cases hr:d.ref=0
        rotate_left
        ·have tr:(d.ref != 0)=true:=by rw [bne_iff_ne];exact hr
         have HF:Hid (D=false):=Ac (by rw [HDD.out,show Dy ds d false=false by unfold Dy;rw [if_neg (by decide),decide_eq_false hr]];rfl)
         clear hr
         go_wp2_with fail
         go_ret
         exact ⟨Ao (by rw [HF.out]),HGW.out⟩
        have tr:(d.ref != 0)=false:=by rw [bne_eq_false_iff_eq];exact hr
        have HDD:Hid (D=(Hz d false&&(Fz d false&&En d true))):=Ac (by rw [HDD.out,show Dy ds d false=true by unfold Dy;rw [if_neg (by decide),decide_eq_true hr]];simp [Bool.and_assoc])
        clear hr
        obtain ⟨Z,hZ⟩:∃ Z,valZ d.val=Z:=⟨_,rfl⟩
        have HZ:Hid (Hz d false=Z):=Ac hZ
        have eqn:=fun W=>Yt d.val.1 d.val.2 0 0 W
        have gdn:=Z3
        rw [show (d.val.1==0&&d.val.2==0)=Z by rw [←hZ];rfl] at eqn
        clear hZ
        rcases Z with _ | _
        ·have HF:Hid (D=false):=Ac (by rw [HDD.out,HZ.out];rfl)
         go_wp2_with fail
         go_ret
         exact ⟨Ao (by rw [HF.out]),HGW.out⟩
        have HDD:Hid (D=(Fz d false&&En d true)):=Ac (by rw [HDD.out,HZ.out];rfl)
        clear HZ
        have hC:=I8 wr d.wkind 0 _ _ (.slice none 0 0) (.slice none 0 0) d.wvals [] d.wsteps [] HAT.out.vals HAT.out.steps (Fe _) (O2 _)
        rw [Lw] at hC
        obtain ⟨Wv,hWv⟩:∃ Wv,Cj d.wkind d.wvals.length d.wsteps.length=Wv:=⟨_,rfl⟩
        rw [hWv] at hC
        have HWv:Hid (Fz d false=Wv):=Ac hWv
        have HC:=Ac hC
        clear hC hWv
        go_wp2_with fail
        refine HC.out.mono ?_
        rintro e w5 ⟨rfl,hg5⟩
        rcases Wv with _ | _
        ·have HF:Hid (D=false):=Ac (by rw [HDD.out,HWv.out];rfl)
         go_wp2_with fail
         go_ret
         exact ⟨Ao (by rw [HF.out]),Ae HGW.out hg5⟩
        have HDD:Hid (D=En d true):=Ac (by rw [HDD.out,HWv.out];rfl)
        have HBX:=Ac (HBX.out.more hg5)
        have HAT:=Ac (HAT.out.more hg5)
        have HGW:=Ac (Ae HGW.out hg5)
        clear HC HWv p0 p1 p2 p3 p4 p5 p6 p7 p8 p9 p10 p11 p12 hg5
        obtain ⟨p0,p1,p2,p3,p4,p5,p6,p7,p8,p9,p10,p11,p12⟩:=HBX.out
        have hC:=Jt w5 d.mname d.mkind _ _ d.mg d.mv HMN.out HAT.out.mkind.1 HAT.out.mkind.2 HAT.out.g HAT.out.v (by have:=HAT.out.small;unfold DevP.small at this;omega)
        obtain ⟨Mv,hMv⟩:∃ Mv,Bk d.mname.data.toList d.mkind d.mg d.mv=Mv:=⟨_,rfl⟩
        rw [hMv] at hC
        have HMv:Hid (En d true=(Mv&&decide (d.mkind=d.kind))):=Ac (by rw [←hMv];rfl)
        have HC:=Ac hC
        clear hC hMv
        go_wp2_with fail
        refine HC.out.mono ?_
        rintro e w6 ⟨rfl,hg6⟩
        rcases Mv with _ | _
        ·have HF:Hid (D=false):=Ac (by rw [HDD.out,HMv.out];rfl)
         go_wp2_with fail
         go_ret
         exact ⟨Ao (by rw [HF.out]),Ae HGW.out hg6⟩
        have HG6:=Ac hg6
        have HBX:=Ac (HBX.out.more hg6)
        clear HC p0 p1 p2 p3 p4 p5 p6 p7 p8 p9 p10 p11 p12 hg6
        obtain ⟨p0,p1,p2,p3,p4,p5,p6,p7,p8,p9,p10,p11,p12⟩:=HBX.out
        obtain ⟨T,hT⟩:∃ T,decide (d.mkind=d.kind)=T:=⟨_,rfl⟩
        have tmk:(d.mkind==d.kind)=T:=by rw [←hT];rfl
        have HTT:=Ac hT
        clear hT
        go_wp2_with fail
        go_ret
        exact ⟨Ao (by rw [HDD.out,HMv.out,HTT.out];rfl),Ae HGW.out HG6.out⟩
  ·have t1:((d.nodes.length:Int) != N)=true:=by rw [bne_iff_ne];exact hnl
   have HF:Hid (D=false):=Ac (by rw [HDD.out];simp [M5,hnl])
   clear hnl
   go_wp2_with fail
   go_ret
   exact ⟨Ao (by rw [HF.out]),HGW.out⟩
end
end Go.Proofs.YtckbiimikeiejaaGreatDoor
