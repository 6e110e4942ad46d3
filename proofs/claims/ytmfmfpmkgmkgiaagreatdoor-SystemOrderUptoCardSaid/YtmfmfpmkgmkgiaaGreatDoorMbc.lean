/- RefZ. -/
import Derived.Test.YtmfmfpmkgmkgiaaGreatDoorMbb
import Derived.Test.YtmfmfpmkgmkgiaaGreatDoorMah
import Derived.BigQuiet
set_option linter.unusedVariables false
set_option linter.unusedSimpArgs false
set_option maxHeartbeats 40000000
namespace Go.Proofs.YtmfmfpmkgmkgiaaGreatDoor
section
open Go.RowKit
set_option maxRecDepth 100000 in
theorem Ov (w:World) (sv:Value) (steps:List Int) (hs:IntRow w sv steps) :
  Calls Tryz.prog 188 #[sv] w fun e w'=>e=.returned (.bool (decide (∀ i,i<steps.length→1≤i→steps.getD (i-1) 0<steps.getD i 0)))∧w.grownBy w' none:=by
 obtain ⟨D,hD⟩:∃ D,decide (∀ i,i<steps.length→1≤i→steps.getD (i-1) 0<steps.getD i 0)=D:=⟨_,rfl⟩
 rw [hD]
 have HD:=Ac hD
 clear hD
 have HS:=Ac hs
 obtain ⟨A2,c2,rfl,b1,b2,_,_⟩:=hs
 go_enter Tryz.func188,Tryz.ntmps188
 go_wp2_with fail
 go_loopw [3] (fun i wr=>∃ k:Nat,(1≤k∧(k≤steps.length∨k=1))∧i=.int .i64 k∧w.grownBy wr none∧Hid (∀ i,i<k→1≤i→steps.getD (i-1) 0<steps.getD i 0)) (fun i _=>(steps.length-intOf i).toNat)
 case atStart=>exact ⟨1,by omega,rfl,Al _ _,Ac (fun t ht=>by omega)⟩
 case round =>
  obtain ⟨k,hk,rfl,hg,hb⟩:=hrel
  by_cases hlt:k<steps.length
  ·obtain ⟨m,rfl⟩:∃ m,k=m+1:=⟨k-1,by omega⟩
   obtain ⟨b,o,rfl,⟨u1,u2⟩,q0⟩:=(HS.out.more hg).at hlt
   obtain ⟨b',o',e',⟨u3,u4⟩,q1⟩:=(HS.out.more hg).at (i:=m) (by omega)
   injection e' with e';injection e' with e1 e2 _;subst e1 e2
   have e1:(m:Int)+1<(steps.length:Int):=by omega
   have e2:(m:Int)<(steps.length:Int):=by omega
   have e3:((m:Int)+1).toNat=m+1:=by omega
   have e4:(0:Int)≤(m:Int)+1:=by omega
   have e5:IntKind.i64.wrap ((m:Int)+1-1)=(m:Int):=by rw [show (m:Int)+1-1=m by omega];exact IntWalk.i64_in _ (by omega)
   have e6:IntKind.i64.wrap (m:Int)=(m:Int):=IntWalk.i64_in _ (by omega)
   have e7:((m+1:Nat):Int)=(m:Int)+1:=by omega
   generalize hx1:steps.getD (m+1) 0=x1 at *
   generalize hx0:steps.getD m 0=x0 at *
   have HX:Hid (steps.getD (m+1) 0=x1∧steps.getD m 0=x0):=Ac ⟨hx1,hx0⟩
   clear hx1 hx0 e7 hk
   by_cases hd:x1≤x0
   ·have t5:decide (x1≤x0)=true:=by rw [decide_eq_true_iff];exact hd
    go_wp2_with fail
    go_quiet (fail)
    go_wp2
    go_ret
    exact ⟨Ao (by
     rw [←HD.out,eq_comm,decide_eq_false_iff_not]
     intro h
     have:=h (m+1) hlt (by omega)
     rw [Nat.add_sub_cancel,HX.out.1,HX.out.2] at this
     omega),Ae hg (Az _ _ _)⟩
   ·have t5:decide (x1≤x0)=false:=by rw [decide_eq_false_iff_not];exact hd
    go_wp2_with fail
    go_quiet (fail)
    go_wp2
    exact ⟨⟨m+1+1,by omega,by go_num,Ae hg (Az _ _ _),Ac (fun i hi h1=>by
     by_cases him:i=m+1
     ·subst him;rw [Nat.add_sub_cancel,HX.out.1,HX.out.2];omega
     ·exact hb.out i (by omega) h1)⟩,by simp [intOf];omega⟩
  ·have hge:¬ (k:Int)<(steps.length:Int):=by omega
   have HR:Hid (D=true):=Ac (by rw [←HD.out,decide_eq_true_iff];exact fun i hi h1=>hb.out i (by omega) h1)
   clear hk hb hlt
   go_wp2
   go_ret
   exact ⟨by rw [HR.out];rfl,hg⟩
set_option maxRecDepth 100000 in
theorem Ou (w:World) (kind:Int) (vv sv:Value) (vals:List (Int × Int)) (steps:List Int) (hv:NumRow w vv vals) (hs:IntRow w sv steps) :
  Calls Tryz.prog 131 #[.agg #[.int .i64 kind,vv,sv]] w fun e w'=>e=.returned (.bool (decide (Di kind vals steps)))∧w.grownBy w' none:=by
 have hvi:=hv.i64
 have HV:=Ac hv
 have HS:=Ac hs
 obtain ⟨A1,c1,rfl,a1,a2,_,_⟩:=hv
 obtain ⟨A2,c2,rfl,b1,b2,_,_⟩:=hs
 have gw:=Af w (.cells #[.int .i64 kind,.slice A1 vals.length c1,.slice A2 steps.length c2] 85) none
 have hB:=Blk.new w #[.int .i64 kind,.slice A1 vals.length c1,.slice A2 steps.length c2] 85
 obtain ⟨D,hD⟩:∃ D,decide (Di kind vals steps)=D:=⟨_,rfl⟩
 rw [hD]
 have HD:=Ac hD
 clear hD
 have m0:=hB.cell 0
 have m1:=hB.cell 1
 have m2:=hB.cell 2
 simp only [List.getElem?_toArray,List.getElem?_cons_zero,List.getElem?_cons_succ] at m0 m1 m2
 go_enter Tryz.func131,Tryz.ntmps131
 go_wp2_with fail
 generalize w.alloc (.cells #[.int .i64 kind,.slice A1 vals.length c1,.slice A2 steps.length c2] 85)=wa at *
 generalize hsz:w.heap.size=s at *
 go_loopw [3] (fun i wr=>∃ k:Nat,k≤vals.length∧i=.int .i64 k∧wa.grownBy wr none∧Hid (∀ t,t<k→Bu (vals.getD t (0,0))=true)) (fun i _=>(vals.length-intOf i).toNat)
 case atStart=>exact ⟨0,by omega,rfl,Al _ _,Ac (fun t ht=>by omega)⟩
 case round =>
  obtain ⟨k,hk,rfl,hg,hb⟩:=hrel
  have n1:=Aj hg m1 (by simp)
  by_cases hlt:k<vals.length
  ·have hrow:=HV.out
   obtain ⟨A',c',he,_,_,_,h4⟩:=hrow
   obtain ⟨b,o,rfl,hc⟩:=h4 (by omega)
   injection he with he1 he2 he3
   subst he1
   obtain ⟨p0,p1⟩:=hc k hlt
   have q0:=Aj (Ae gw hg) p0 (by simp)
   have q1:=Aj (Ae gw hg) p1 (by simp)
   obtain ⟨⟨u1,u2⟩,u3,u4⟩:=hvi k
   clear hc p0 p1 h4 he3
   generalize hp:vals.getD k (0,0)=p at *
   have HP:=Ac hp
   clear hp
   obtain ⟨m,e⟩:=p
   simp only at q0 q1 u1 u2 u3 u4
   go_wp2_with fail
   refine (Df _ m e u1 u2 u3 u4).mono ?_
   rintro e' w3 ⟨rfl,hg3⟩
   have g3:=Ae hg hg3
   cases hd:decide (NumOK m e) with
   | false =>
    have HF:=Ac (Mu (kind:=kind) (steps:=steps) hlt (by rw [HP.out];exact hd))
    clear hd
    go_wp2
    go_ret
    exact ⟨Ao (by rw [←HD.out];exact HF.out.symm),Ae gw g3⟩
   | true =>
    have HX:Hid (Bu (vals.getD k (0,0))=true):=Ac (by rw [HP.out];exact hd)
    clear hd
    go_wp2
    exact ⟨⟨k+1,by omega,Bl (by omega),g3,Ac (fun t ht=>by
     by_cases htk:t=k
     ·subst htk;exact HX.out
     ·exact hb.out t (by omega))⟩,by simp [intOf];omega⟩
  ·obtain rfl:k=vals.length:=by omega
   have HA:Hid (vals.all Bu=true):=Ac (Ez hb.out)
   have n0:=Aj hg m0 (by simp)
   have n1:=Aj hg m1 (by simp)
   have n2:=Aj hg m2 (by simp)
   have g1:=Ae gw hg
   clear hb hB m0 m1 m2 gw hg
   obtain ⟨wo,rfl⟩:∃ wo:World,wo=wr:=⟨_,rfl⟩
   go_wp2
   go_loopw [4] (fun i wr=>∃ k:Nat,k≤steps.length∧i=.int .i64 k∧wr=wo∧Hid (∀ t,t<k→Hr (steps.getD t 0))) (fun i _=>(steps.length-intOf i).toNat)
   case atStart=>exact ⟨0,by omega,rfl,rfl,Ac (fun t ht=>by omega)⟩
   case round =>
    obtain ⟨k,hk,rfl,rfl,hb⟩:=hrel
    by_cases hlt:k<steps.length
    ·obtain ⟨b,o,rfl,⟨u1,u2⟩,q0⟩:=(HS.out.more g1).at hlt
     generalize hp:steps.getD k 0=x at *
     have HP:=Ac hp
     clear hp
     by_cases hx:Hr x
     ·have HX:=Ac hx
      obtain ⟨x1,x2⟩:=hx
      have d1:¬ x<0:=by omega
      have d2:¬ (1000000000:Int)<x:=by omega
      go_wp2
      exact ⟨⟨k+1,by omega,Bl (by omega),trivial,Ac (fun t ht=>by
       by_cases htk:t=k
       ·subst htk;rw [HP.out];exact HX.out
       ·exact hb.out t (by omega))⟩,by simp [intOf];omega⟩
     ·have HF:=Ac (Lj (kind:=kind) (vals:=vals) hlt (by rw [HP.out];exact hx))
      have hx':x<0∨1000000000<x:=by unfold Hr at hx;omega
      clear hx
      rcases hx' with hx' | hx'
      ·go_wp2
       go_ret
       exact ⟨Ao (by rw [←HD.out];exact HF.out.symm),g1⟩
      ·have d1:¬ x<0:=by omega
       go_wp2
       go_ret
       exact ⟨Ao (by rw [←HD.out];exact HF.out.symm),g1⟩
    ·obtain rfl:k=steps.length:=by omega
     have HST:=Ac (fun t (ht:t<steps.length)=>hb.out t ht)
     clear hb hvi
     have hW:D=decide (Cc kind vals steps):=by
      rw [←HD.out]
      have:Di kind vals steps↔Cc kind vals steps:=⟨fun h=>h.2.2,fun h=>⟨HA.out,HST.out,h⟩⟩
      simp only [this]
     have HW:=Ac hW
     clear hW
     generalize hlv:vals.length=lv at *
     generalize hls:steps.length=ls at *
     have HLV:=Ac hlv
     have HLS:=Ac hls
     have IR:Hid (IntRow wr (.slice A2 steps.length c2) steps):=Ac (by have:=HS.out.more g1;rw [←hls] at this;exact this)
     rw [hls] at IR
     clear hlv hls
     by_cases h1:kind=1
     ·as_aux_lemma =>
       subst h1
       have HK:Hid (Cc 1 vals steps↔(lv=1∧ls=0)):=Ac (by unfold Cc;rw [if_pos rfl,HLV.out,HLS.out])
       go_wp2_with fail
       go_quiet (fail)
       go_wp2
       all_goals
        go_ret
        exact ⟨Ao (by rw [HW.out,Bool.eq_iff_iff];simp only [HK.out];simp;try omega),Ae g1 (Az _ _ _)⟩
     have t1:(kind==1)=false:=by rw [beq_eq_false_iff_ne];exact h1
     by_cases h2:kind=2
     ·as_aux_lemma =>
       subst h2
       have HK:Hid (Cc 2 vals steps↔(lv=2∧ls=5∧1≤steps.getD 4 0∧steps.getD 1 0+steps.getD 2 0+steps.getD 3 0≤steps.getD 4 0)):=Ac (by unfold Cc;rw [if_neg (by decide),if_pos rfl,HLV.out,HLS.out])
       by_cases hv2:lv=2
       ·have tv:((lv:Int)==2)=true:=by rw [beq_iff_eq];omega
        by_cases hs5:ls=5
        ·have ts:((ls:Int)==5)=true:=by rw [beq_iff_eq];omega
         obtain ⟨b,o,rfl,i4,c4⟩:=IR.out.at (i:=4) (by have:=HLS.out;omega)
         obtain ⟨b',o',e',i3,c3⟩:=IR.out.at (i:=3) (by have:=HLS.out;omega)
         injection e' with e';injection e' with e1 e2 _;subst e1 e2
         obtain ⟨b',o',e',i2,c2'⟩:=IR.out.at (i:=2) (by have:=HLS.out;omega)
         injection e' with e';injection e' with e1 e2 _;subst e1 e2
         obtain ⟨b',o',e',i1,c1'⟩:=IR.out.at (i:=1) (by have:=HLS.out;omega)
         injection e' with e';injection e' with e1 e2 _;subst e1 e2
         obtain ⟨u1,u1'⟩:=HST.out 1 (by have:=HLS.out;omega)
         obtain ⟨u2,u2'⟩:=HST.out 2 (by have:=HLS.out;omega)
         obtain ⟨u3,u3'⟩:=HST.out 3 (by have:=HLS.out;omega)
         obtain ⟨u4,u4'⟩:=HST.out 4 (by have:=HLS.out;omega)
         have f1:(1:Int)<(ls:Int):=by omega
         have f2:(2:Int)<(ls:Int):=by omega
         have f3:(3:Int)<(ls:Int):=by omega
         have f4:(4:Int)<(ls:Int):=by omega
         have HV2:=Ac hv2
         have HS5:=Ac hs5
         clear hv2 hs5 i1 i2 i3 i4
         generalize steps.getD 1 0=x1 at *
         generalize steps.getD 2 0=x2 at *
         generalize steps.getD 3 0=x3 at *
         generalize steps.getD 4 0=x4 at *
         have w1:IntKind.i64.wrap (x1+x2)=x1+x2:=IntWalk.i64_in _ (by omega)
         have w2:IntKind.i64.wrap (x1+x2+x3)=x1+x2+x3:=IntWalk.i64_in _ (by omega)
         have d1:=fun p=>B8 n0 p
         by_cases h4:0<x4
         ·have t4:decide (0<x4)=true:=by rw [decide_eq_true_iff];exact h4
          go_wp2_with fail
          go_quiet (fail)
          go_wp2_with fail
          go_quiet (fail)
          go_wp2
          go_ret
          exact ⟨Ao (by rw [HW.out,Bool.eq_iff_iff];simp only [HK.out,HV2.out,HS5.out];simp;omega),Ae g1 (Ae (Az _ _ _) (Az _ _ _))⟩
         ·have t4:decide (0<x4)=false:=by rw [decide_eq_false_iff_not];exact h4
          go_wp2_with fail
          go_quiet (fail)
          go_wp2_with fail
          go_quiet (fail)
          go_wp2
          go_ret
          exact ⟨Ao (by rw [HW.out,eq_comm,decide_eq_false_iff_not];rw [HK.out];exact fun h=>by have:=h.2.2.1;omega),Ae g1 (Ae (Az _ _ _) (Az _ _ _))⟩
        ·have ts:((ls:Int)==5)=false:=by rw [beq_eq_false_iff_ne];omega
         have HS5:=Ac hs5
         clear hs5
         go_wp2_with fail
         go_quiet (fail)
         go_wp2_with fail
         go_quiet (fail)
         go_wp2
         go_ret
         exact ⟨Ao (by rw [HW.out,eq_comm,decide_eq_false_iff_not];rw [HK.out];exact fun h=>HS5.out h.2.1),Ae g1 (Ae (Az _ _ _) (Az _ _ _))⟩
       ·have tv:((lv:Int)==2)=false:=by rw [beq_eq_false_iff_ne];omega
        have HV2:=Ac hv2
        clear hv2
        go_wp2_with fail
        go_quiet (fail)
        go_wp2_with fail
        go_quiet (fail)
        go_wp2
        go_ret
        exact ⟨Ao (by rw [HW.out,eq_comm,decide_eq_false_iff_not];rw [HK.out];exact fun h=>HV2.out h.1),Ae g1 (Ae (Az _ _ _) (Az _ _ _))⟩
     have t2:(kind==2)=false:=by rw [beq_eq_false_iff_ne];exact h2
     by_cases h3:kind=3
     ·as_aux_lemma =>
       subst h3
       obtain ⟨X,hX⟩:∃ X,decide (∀ i,i<steps.length→1≤i→steps.getD (i-1) 0<steps.getD i 0)=X:=⟨_,rfl⟩
       have HC:=Ac (fun W (h:wr.grownBy W none)=>by have hh:=Ov W _ steps (IR.out.more h);rw [hX] at hh;exact hh)
       have HK:Hid (Cc 3 vals steps↔(X=true∧lv=ls∧1≤lv∧lv≤16)):=Ac (by rw [←hX,decide_eq_true_iff];unfold Cc;rw [if_neg (by decide),if_neg (by decide),if_pos rfl,HLV.out,HLS.out])
       clear hX
       go_wp2_with fail
       go_quiet (fail)
       by_cases hall:lv=ls∧1≤lv∧lv≤16
       ·obtain ⟨e1,e2,e3⟩:=hall
        have HKX:Hid (Cc 3 vals steps↔X=true):=Ac (by rw [HK.out];exact ⟨fun h=>h.1,fun h=>⟨h,e1,e2,e3⟩⟩)
        subst e1
        have d1:decide (1≤(lv:Int))=true:=by rw [decide_eq_true_iff];omega
        have d2:decide ((lv:Int)≤16)=true:=by rw [decide_eq_true_iff];omega
        go_wp2_with fail
        refine (HC.out _ (Az _ _ _)).mono ?_
        rintro e w5 ⟨rfl,hg5⟩
        go_wp2
        go_ret
        exact ⟨Ao (by rw [HW.out];simp only [HKX.out];simp),Ae g1 (Ae (Az _ _ _) hg5)⟩
       ·have HF:Hid (D=false):=Ac (by rw [HW.out,decide_eq_false_iff_not,HK.out];exact fun h=>hall h.2)
        clear HW HK
        by_cases e1:lv=ls
        ·subst e1
         go_wp2_with fail
         all_goals first
          | (go_ret;exact ⟨by rw [HF.out];rfl,Ae g1 (Az _ _ _)⟩)
          | (exfalso;simp at *;omega)
        ·have t:((lv:Int)==(ls:Int))=false:=by rw [beq_eq_false_iff_ne];omega
         go_wp2_with fail
         all_goals
          go_ret
          exact ⟨by rw [HF.out];rfl,Ae g1 (Az _ _ _)⟩
     have t3:(kind==3)=false:=by rw [beq_eq_false_iff_ne];exact h3
     by_cases h4:kind=4
     ·as_aux_lemma =>
       subst h4
       have HK:Hid (Cc 4 vals steps↔(1≤lv∧lv≤16∧ls=0)):=Ac (by unfold Cc;rw [if_neg (by decide),if_neg (by decide),if_neg (by decide),if_pos rfl,HLV.out,HLS.out])
       go_wp2_with fail
       go_quiet (fail)
       go_wp2
       all_goals
        go_ret
        exact ⟨Ao (by rw [HW.out,Bool.eq_iff_iff];simp only [HK.out];simp;try omega),Ae g1 (Az _ _ _)⟩
     have t4:(kind==4)=false:=by rw [beq_eq_false_iff_ne];exact h4
     have hK:¬ Cc kind vals steps:=by unfold Cc;rw [if_neg h1,if_neg h2,if_neg h3,if_neg h4];exact fun h=>h
     have HK:=Ac hK
     clear hK h1 h2 h3 h4
     go_wp2_with fail
     go_quiet (fail)
     go_wp2
     all_goals
      go_ret
      exact ⟨Ao (by rw [HW.out,eq_comm,decide_eq_false_iff_not];exact HK.out),Ae g1 (Az _ _ _)⟩
end
end Go.Proofs.YtmfmfpmkgmkgiaaGreatDoor
