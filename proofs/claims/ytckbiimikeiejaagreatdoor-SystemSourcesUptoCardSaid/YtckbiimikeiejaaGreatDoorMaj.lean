/- WavA SysD SysE SysF ModD FlatA. -/
import Derived.Test.YtckbiimikeiejaaGreatDoorMai
import Derived.Test.YtckbiimikeiejaaGreatDoorMae
import Derived.Maps.Own
import Derived.Maps.OwnOps
import Derived.Maps.OwnSet
set_option linter.unusedVariables false
set_option linter.unusedSimpArgs false
set_option maxHeartbeats 40000000
namespace Go.Proofs.YtckbiimikeiejaaGreatDoor
section
open Go.RowKit
open Rat
def ints (l:List Int):List Value:=l.map (Value.int .i64)
theorem D5 (l:List Int):(ints l).length=l.length:=by simp [ints]
theorem J5 (l:List Int) (i:Nat) (h:i<l.length):(ints l)[i]? = some (.int .i64 (l.getD i 0)):=by
 simp [ints,List.getElem?_eq_getElem h,List.getD]
def IntRow (w:World) (v:Value) (l:List Int):Prop :=
 ∃ A c,v=.slice A l.length c∧l.length≤c∧c≤9223372036854775807∧(∀ x∈l,I64 x)∧
  (0<l.length→∃ b o,A=some ⟨b,o,none⟩∧∀ i,i<l.length→w.cell? ⟨b,o+i,none⟩=some (.int .i64 (l.getD i 0)))
theorem IntRow.more {w w':World} {v:Value} {l:List Int} (h:IntRow w v l) (hg:w.grownBy w' none):IntRow w' v l:=by
 obtain ⟨A,c,rfl,h1,h2,h3,h4⟩:=h
 refine ⟨A,c,rfl,h1,h2,h3,fun hp=>?_⟩
 obtain ⟨b,o,rfl,hc⟩:=h4 hp
 exact ⟨b,o,rfl,fun i hi=>Aj hg (hc i hi) (by simp)⟩
theorem IntRow.ctor {w:World} {v:Value} {l:List Int} (h:IntRow w v l):∃ A c,v=.slice A l.length c∧l.length≤c∧c≤9223372036854775807:=by
 obtain ⟨A,c,rfl,h1,h2,_⟩:=h
 exact ⟨A,c,rfl,h1,h2⟩
theorem I64.of_mem {l:List Int} (h:∀ x∈l,I64 x) (i:Nat):I64 (l.getD i 0):=by
 by_cases hi:i<l.length
 ·have:l.getD i 0=l[i]:=by simp [List.getD,List.getElem?_eq_getElem hi]
  rw [this];exact h _ (List.getElem_mem _)
 ·have:l.getD i 0=0:=by simp [List.getD,List.getElem?_eq_none (Nat.le_of_not_lt hi)]
  rw [this];exact ⟨by decide,by decide⟩
theorem IntRow.at {w:World} {A:Option Addr} {n c:Nat} {l:List Int} (h:IntRow w (.slice A n c) l) {i:Nat} (hi:i<l.length) :
  ∃ b o,A=some ⟨b,o,none⟩∧I64 (l.getD i 0)∧w.cell? ⟨b,o+i,none⟩=some (.int .i64 (l.getD i 0)):=by
 obtain ⟨A0,c0,he,h1,h2,h3,h4⟩:=h
 injection he with e1 e2 e3
 subst e1
 obtain ⟨b,o,rfl,hc⟩:=h4 (by omega)
 exact ⟨b,o,rfl,I64.of_mem h3 i,hc i hi⟩
theorem IntRow.i64 {w:World} {v:Value} {l:List Int} (h:IntRow w v l) (i:Nat):I64 (l.getD i 0):=by
 obtain ⟨_,_,_,_,_,h3,_⟩:=h
 exact I64.of_mem h3 i
def Hr (s:Int):Prop:=0≤s∧s≤1000000000
instance (s:Int):Decidable (Hr s):=by unfold Hr;infer_instance
def Cc (kind:Int) (vals:List (Int × Int)) (steps:List Int):Prop :=
 if kind=1 then vals.length=1∧steps.length=0
 else if kind=2 then vals.length=2∧steps.length=5∧1≤steps.getD 4 0∧steps.getD 1 0+steps.getD 2 0+steps.getD 3 0≤steps.getD 4 0
 else if kind=3 then (∀ i,i<steps.length→1≤i→steps.getD (i-1) 0<steps.getD i 0)∧vals.length=steps.length∧1≤vals.length∧vals.length≤16
 else if kind=4 then 1≤vals.length∧vals.length≤16∧steps.length=0
 else False
instance (kind:Int) (vals:List (Int × Int)) (steps:List Int):Decidable (Cc kind vals steps):=by unfold Cc;infer_instance
def Di (kind:Int) (vals:List (Int × Int)) (steps:List Int):Prop:=vals.all Bu=true∧(∀ i,i<steps.length→Hr (steps.getD i 0))∧Cc kind vals steps
instance (kind:Int) (vals:List (Int × Int)) (steps:List Int):Decidable (Di kind vals steps):=by unfold Di;infer_instance
theorem Mu {kind:Int} {vals:List (Int × Int)} {steps:List Int} {k:Nat} (hk:k<vals.length) (h:Bu (vals.getD k (0,0))=false):decide (Di kind vals steps)=false:=by
 rw [decide_eq_false_iff_not]
 intro hh
 have:=F8 hk h
 rw [hh.1] at this
 cases this
theorem Lj {kind:Int} {vals:List (Int × Int)} {steps:List Int} {k:Nat} (hk:k<steps.length) (h:¬ Hr (steps.getD k 0)):decide (Di kind vals steps)=false:=by
 rw [decide_eq_false_iff_not]
 exact fun hh=>h (hh.2.1 k hk)
set_option maxRecDepth 100000 in
theorem Ie (w:World) (kind:Int) (vv sv:Value) (vals:List (Int × Int)) (steps:List Int) (hv:NumRow w vv vals) (hs:IntRow w sv steps) :
  Calls Tryz.prog 162 #[.agg #[.int .i64 kind,vv,sv]] w fun e w'=>e=.returned (.bool (decide (Di kind vals steps)))∧w.grownBy w' none:=by
 have hvi:=hv.i64
 have HV:=Ac hv
 have HS:=Ac hs
 obtain ⟨A1,c1,rfl,a1,a2,_,_⟩:=hv
 obtain ⟨A2,c2,rfl,b1,b2,_,_⟩:=hs
 have gw:=Af w (.cells #[.int .i64 kind,.slice A1 vals.length c1,.slice A2 steps.length c2] 85) none
 have hB:=Blk.new w #[.int .i64 kind,.slice A1 vals.length c1,.slice A2 steps.length c2] 85
 obtain ⟨D,hD⟩:∃ D,decide (Di kind vals steps)=D:=⟨_,rfl⟩
 rw [hD]
 have HD:=Ac hD
 clear hD
 have m0:=hB.cell 0
 have m1:=hB.cell 1
 have m2:=hB.cell 2
 simp only [List.getElem?_toArray,List.getElem?_cons_zero,List.getElem?_cons_succ] at m0 m1 m2
 go_enter Tryz.func162,Tryz.ntmps162
 go_wp2_with fail
 generalize w.alloc (.cells #[.int .i64 kind,.slice A1 vals.length c1,.slice A2 steps.length c2] 85)=wa at *
 generalize hsz:w.heap.size=s at *
 go_loopw [11] (fun i wr=>∃ k:Nat,k≤vals.length∧i=.int .i64 k∧wa.grownBy wr none∧Hid (∀ t,t<k→Bu (vals.getD t (0,0))=true)) (fun i _=>(vals.length-intOf i).toNat)
 case atStart=>exact ⟨0,by omega,rfl,Al _ _,Ac (fun t ht=>by omega)⟩
 case round =>
  obtain ⟨k,hk,rfl,hg,hb⟩:=hrel
  by_cases hlt:k<vals.length
  ·have hrow:=HV.out
   obtain ⟨A',c',he,_,_,_,h4⟩:=hrow
   obtain ⟨b,o,rfl,hc⟩:=h4 (by omega)
   injection he with he1 he2 he3
   subst he1
   obtain ⟨p0,p1⟩:=hc k hlt
   have q0:=Aj (Ae gw hg) p0 (by simp)
   have q1:=Aj (Ae gw hg) p1 (by simp)
   obtain ⟨⟨u1,u2⟩,u3,u4⟩:=hvi k
   clear hc p0 p1 h4 he3
   generalize hp:vals.getD k (0,0)=p at *
   have HP:=Ac hp
   clear hp
   obtain ⟨m,e⟩:=p
   simp only at q0 q1 u1 u2 u3 u4
   go_wp2_with fail
   refine (Bd _ m e u1 u2 u3 u4).mono ?_
   rintro e' w3 ⟨rfl,hg3⟩
   have g3:=Ae hg (Ae (Af wr (.cells #[.int .i64 m,.int .i64 e] 25) none) hg3)
   cases hd:decide (NumOK m e) with
   | false =>
    have HF:=Ac (Mu (kind:=kind) (steps:=steps) hlt (by rw [HP.out];exact hd))
    clear hd
    go_wp2
    go_ret
    exact ⟨Ao (by rw [←HD.out];exact HF.out.symm),Ae gw g3⟩
   | true =>
    have HX:Hid (Bu (vals.getD k (0,0))=true):=Ac (by rw [HP.out];exact hd)
    clear hd
    go_wp2
    exact ⟨⟨k+1,by omega,Bl (by omega),g3,Ac (fun t ht=>by
     by_cases htk:t=k
     ·subst htk;exact HX.out
     ·exact hb.out t (by omega))⟩,by simp [intOf];omega⟩
  ·obtain rfl:k=vals.length:=by omega
   have HA:Hid (vals.all Bu=true):=Ac (Ez hb.out)
   have n0:=Aj hg m0 (by simp)
   have n1:=Aj hg m1 (by simp)
   have n2:=Aj hg m2 (by simp)
   have g1:=Ae gw hg
   clear hb hB m0 m1 m2 gw hg
   obtain ⟨wo,rfl⟩:∃ wo:World,wo=wr:=⟨_,rfl⟩
   go_wp2
   go_loopw [22] (fun i wr=>∃ k:Nat,k≤steps.length∧i=.int .i64 k∧wr=wo∧Hid (∀ t,t<k→Hr (steps.getD t 0))) (fun i _=>(steps.length-intOf i).toNat)
   case atStart=>exact ⟨0,by omega,rfl,rfl,Ac (fun t ht=>by omega)⟩
   case round =>
    obtain ⟨k,hk,rfl,rfl,hb⟩:=hrel
    by_cases hlt:k<steps.length
    ·obtain ⟨b,o,rfl,⟨u1,u2⟩,q0⟩:=(HS.out.more g1).at hlt
     generalize hp:steps.getD k 0=x at *
     have HP:=Ac hp
     clear hp
     by_cases hx:Hr x
     ·have HX:=Ac hx
      obtain ⟨x1,x2⟩:=hx
      have d1:¬ x<0:=by omega
      have d2:¬ (1000000000:Int)<x:=by omega
      go_wp2
      exact ⟨⟨k+1,by omega,Bl (by omega),trivial,Ac (fun t ht=>by
       by_cases htk:t=k
       ·subst htk;rw [HP.out];exact HX.out
       ·exact hb.out t (by omega))⟩,by simp [intOf];omega⟩
     ·have HF:=Ac (Lj (kind:=kind) (vals:=vals) hlt (by rw [HP.out];exact hx))
      have hx':x<0∨1000000000<x:=by unfold Hr at hx;omega
      clear hx
      rcases hx' with hx' | hx'
      ·go_wp2
       go_ret
       exact ⟨Ao (by rw [←HD.out];exact HF.out.symm),g1⟩
      ·have d1:¬ x<0:=by omega
       go_wp2
       go_ret
       exact ⟨Ao (by rw [←HD.out];exact HF.out.symm),g1⟩
    ·obtain rfl:k=steps.length:=by omega
     have HST:=Ac (fun t (ht:t<steps.length)=>hb.out t ht)
     clear hb hvi
     have hW:D=decide (Cc kind vals steps):=by
      rw [←HD.out]
      have:Di kind vals steps↔Cc kind vals steps:=⟨fun h=>h.2.2,fun h=>⟨HA.out,HST.out,h⟩⟩
      simp only [this]
     have HW:=Ac hW
     clear hW
     by_cases h1:kind=1
     ·subst h1
      have hK:Cc 1 vals steps↔(vals.length=1∧steps.length=0):=by unfold Cc;rw [if_pos rfl]
      have HK:=Ac hK
      clear hK
      generalize vals.length=lv at *
      generalize steps.length=ls at *
      go_wp2
      all_goals
       go_ret
       exact ⟨Ao (by rw [HW.out,Bool.eq_iff_iff];simp only [HK.out];simp;try omega),g1⟩
     have t1:(kind==1)=false:=by rw [beq_eq_false_iff_ne];exact h1
     by_cases h2:kind=2
     ·subst h2
      have hK:Cc 2 vals steps↔(vals.length=2∧steps.length=5∧1≤steps.getD 4 0∧steps.getD 1 0+steps.getD 2 0+steps.getD 3 0≤steps.getD 4 0):=by unfold Cc;rw [if_neg (by decide),if_pos rfl]
      have HK:=Ac hK
      clear hK
      by_cases hv2:vals.length=2
      ·have tv:((vals.length:Int)==2)=true:=by rw [beq_iff_eq];omega
       by_cases hs5:steps.length=5
       ·have ts:((steps.length:Int)==5)=true:=by rw [beq_iff_eq];omega
        obtain ⟨b,o,rfl,i4,c4⟩:=(HS.out.more g1).at (i:=4) (by omega)
        obtain ⟨b',o',e',i3,c3⟩:=(HS.out.more g1).at (i:=3) (by omega)
        injection e' with e';injection e' with e1 e2 _;subst e1 e2
        obtain ⟨b',o',e',i2,c2'⟩:=(HS.out.more g1).at (i:=2) (by omega)
        injection e' with e';injection e' with e1 e2 _;subst e1 e2
        obtain ⟨b',o',e',i1,c1'⟩:=(HS.out.more g1).at (i:=1) (by omega)
        injection e' with e';injection e' with e1 e2 _;subst e1 e2
        have s1:=HST.out 1 (by omega)
        have s2:=HST.out 2 (by omega)
        have s3:=HST.out 3 (by omega)
        obtain ⟨u1,u1'⟩:=s1
        obtain ⟨u2,u2'⟩:=s2
        obtain ⟨u3,u3'⟩:=s3
        have f1:(1:Int)<(steps.length:Int):=by omega
        have f2:(2:Int)<(steps.length:Int):=by omega
        have f3:(3:Int)<(steps.length:Int):=by omega
        have f4:(4:Int)<(steps.length:Int):=by omega
        have HV2:=Ac hv2
        have HS5:=Ac hs5
        clear hv2 hs5 i1 i2 i3 i4
        generalize steps.getD 1 0=x1 at *
        generalize steps.getD 2 0=x2 at *
        generalize steps.getD 3 0=x3 at *
        generalize steps.getD 4 0=x4 at *
        by_cases h4:1≤x4
        ·have t4:decide (1≤x4)=true:=by rw [decide_eq_true_iff];exact h4
         have w1:IntKind.i64.wrap (x1+x2)=x1+x2:=IntWalk.i64_in _ (by omega)
         have w2:IntKind.i64.wrap (x1+x2+x3)=x1+x2+x3:=IntWalk.i64_in _ (by omega)
         go_wp2_with fail
         go_quiet (fail)
         go_wp2
         go_ret
         exact ⟨Ao (by rw [HW.out,Bool.eq_iff_iff];simp only [HK.out,HV2.out,HS5.out];simp [h4]),Ae g1 (Az _ _ _)⟩
        ·have t4:decide (1≤x4)=false:=by rw [decide_eq_false_iff_not];exact h4
         go_wp2_with fail
         go_quiet (fail)
         go_wp2
         go_ret
         exact ⟨Ao (by rw [HW.out,eq_comm,decide_eq_false_iff_not];rw [HK.out];exact fun h=>by have:=h.2.2.1;omega),Ae g1 (Az _ _ _)⟩
       ·have ts:((steps.length:Int)==5)=false:=by rw [beq_eq_false_iff_ne];omega
        have HS5:=Ac hs5
        clear hs5
        go_wp2_with fail
        go_quiet (fail)
        go_wp2
        go_ret
        exact ⟨Ao (by rw [HW.out,eq_comm,decide_eq_false_iff_not];rw [HK.out];exact fun h=>HS5.out h.2.1),Ae g1 (Az _ _ _)⟩
      ·have tv:((vals.length:Int)==2)=false:=by rw [beq_eq_false_iff_ne];omega
       have HV2:=Ac hv2
       clear hv2
       go_wp2_with fail
       go_quiet (fail)
       go_wp2
       go_ret
       exact ⟨Ao (by rw [HW.out,eq_comm,decide_eq_false_iff_not];rw [HK.out];exact fun h=>HV2.out h.1),Ae g1 (Az _ _ _)⟩
     have t2:(kind==2)=false:=by rw [beq_eq_false_iff_ne];exact h2
     by_cases h4:kind=4
     ·subst h4
      have hK:Cc 4 vals steps↔(1≤vals.length∧vals.length≤16∧steps.length=0):=by unfold Cc;rw [if_neg (by decide),if_neg (by decide),if_neg (by decide),if_pos rfl]
      have HK:=Ac hK
      clear hK
      generalize vals.length=lv at *
      generalize steps.length=ls at *
      go_wp2
      all_goals
       go_ret
       exact ⟨Ao (by rw [HW.out,Bool.eq_iff_iff];simp only [HK.out];simp;try omega),g1⟩
     have t4:(kind==4)=false:=by rw [beq_eq_false_iff_ne];exact h4
     by_cases h3:kind=3
     ·subst h3
      have hK:Cc 3 vals steps↔((∀ i,i<steps.length→1≤i→steps.getD (i-1) 0<steps.getD i 0)∧vals.length=steps.length∧1≤vals.length∧vals.length≤16):=by unfold Cc;rw [if_neg (by decide),if_neg (by decide),if_pos rfl]
      have HK:=Ac hK
      clear hK
      obtain ⟨wp,rfl⟩:∃ wp:World,wp=wr:=⟨_,rfl⟩
      go_wp2
      go_loopw [7] (fun i wr=>∃ k:Nat,(1≤k∧(k≤steps.length∨k=1))∧i=.int .i64 k∧wp.grownBy wr none∧Hid (∀ i,i<k→1≤i→steps.getD (i-1) 0<steps.getD i 0)) (fun i _=>(steps.length-intOf i).toNat)
      case atStart=>exact ⟨1,by omega,rfl,Al _ _,Ac (fun t ht=>by omega)⟩
      case round =>
       obtain ⟨k,hk,rfl,hg,hb⟩:=hrel
       have n0:=Aj hg n0 (by simp)
       have n1:=Aj hg n1 (by simp)
       have n2:=Aj hg n2 (by simp)
       have g2:=Ae g1 hg
       by_cases hlt:k<steps.length
       ·obtain ⟨m,rfl⟩:∃ m,k=m+1:=⟨k-1,by omega⟩
        obtain ⟨b,o,rfl,⟨u1,u2⟩,q0⟩:=(HS.out.more g2).at hlt
        obtain ⟨b',o',e',⟨u3,u4⟩,q1⟩:=(HS.out.more g2).at (i:=m) (by omega)
        injection e' with e';injection e' with e1 e2 _;subst e1 e2
        have e1:(m:Int)+1<(steps.length:Int):=by omega
        have e2:(m:Int)<(steps.length:Int):=by omega
        have e3:((m:Int)+1).toNat=m+1:=by omega
        have e4:(0:Int)≤(m:Int)+1:=by omega
        have e5:IntKind.i64.wrap ((m:Int)+1-1)=(m:Int):=by rw [show (m:Int)+1-1=m by omega];exact IntWalk.i64_in _ (by omega)
        have e6:IntKind.i64.wrap (m:Int)=(m:Int):=IntWalk.i64_in _ (by omega)
        have e7:((m+1:Nat):Int)=(m:Int)+1:=by omega
        generalize hx1:steps.getD (m+1) 0=x1 at *
        generalize hx0:steps.getD m 0=x0 at *
        have HX:Hid (steps.getD (m+1) 0=x1∧steps.getD m 0=x0):=Ac ⟨hx1,hx0⟩
        clear hx1 hx0 e7 hk
        by_cases hd:x1≤x0
        ·have t5:decide (x1≤x0)=true:=by rw [decide_eq_true_iff];exact hd
         go_wp2_with fail
         go_quiet (fail)
         go_wp2
         go_ret
         exact ⟨Ao (by
          rw [HW.out,eq_comm,decide_eq_false_iff_not,HK.out]
          intro h
          have:=h.1 (m+1) hlt (by omega)
          rw [Nat.add_sub_cancel,HX.out.1,HX.out.2] at this
          omega),Ae g2 (Az _ _ _)⟩
        ·have t5:decide (x1≤x0)=false:=by rw [decide_eq_false_iff_not];exact hd
         go_wp2_with fail
         go_quiet (fail)
         go_wp2
         exact ⟨⟨m+1+1,by omega,by go_num,Ae hg (Az _ _ _),Ac (fun i hi h1=>by
          by_cases him:i=m+1
          ·subst him;rw [Nat.add_sub_cancel,HX.out.1,HX.out.2];omega
          ·exact hb.out i (by omega) h1)⟩,by simp [intOf];omega⟩
       ·have hge:¬ (k:Int)<(steps.length:Int):=by omega
        have HR:Hid (∀ i,i<steps.length→1≤i→steps.getD (i-1) 0<steps.getD i 0):=Ac (fun i hi h1=>hb.out i (by omega) h1)
        clear hk hb hlt
        generalize vals.length=lv at *
        generalize hls:steps.length=ls at *
        have HLS:=Ac hls
        clear hls
        have e:Cc 3 vals steps↔(lv=ls∧1≤lv∧lv≤16):=by rw [HK.out];exact ⟨fun h=>h.2,fun h=>⟨HR.out,h⟩⟩
        have HE:=Ac e
        clear e
        go_wp2
        all_goals
         go_ret
         exact ⟨Ao (by rw [HW.out,Bool.eq_iff_iff];simp only [HE.out];simp;try omega),g2⟩
     have t3:(kind==3)=false:=by rw [beq_eq_false_iff_ne];exact h3
     have hK:¬ Cc kind vals steps:=by unfold Cc;rw [if_neg h1,if_neg h2,if_neg h3,if_neg h4];exact fun h=>h
     have HK:=Ac hK
     clear hK h1 h2 h3 h4
     go_wp2
     all_goals
      go_ret
      exact ⟨Ao (by rw [HW.out,eq_comm,decide_eq_false_iff_not];exact HK.out),g1⟩
end
section
open Go.RowKit
open Rat
theorem RatB.cells4 {w:World} {b:Nat} {q:Rat} (h:RatB w b q):∃ cs T,cs.size=4∧w.heap[b]? = some (.cells cs T (0,0)):=by
 obtain ⟨v1,v2,d,T,_,hb,_⟩:=h
 exact ⟨_,T,rfl,hb⟩
theorem Mr (w:World) (bq bm:Nat) (q:Rat) (m:Int) (hq:RatB w bq q) (hm:IntB w bm m) (lq:LimQ q 200000000) (lm:lim m≤200000000) :
  Calls Tryz.prog 141 #[.pointer (some ⟨bq,0,none⟩),.pointer (some ⟨bm,0,none⟩)] w fun e w'=>∃ b,e=.returned (.pointer (some ⟨b,0,none⟩))∧IntB w' b ((q.num*m).tdiv q.den)∧w.heap.size≤b∧w.grownBy w' none:=by
 have ga:=Af w (zint 158) none
 have hz:=IntB.new w 158
 have HZ:=Ac hz
 have HQ:=Ac (hq.more ga)
 have HM:=Ac (hm.more ga)
 have HL1:=Ac (Nat.le_trans lq.1 (show 200000000≤1099511627776 by omega))
 have HL2:=Ac (Nat.le_trans lq.2 (show 200000000≤1099511627776 by omega))
 have HLM:=Ac (Nat.le_trans lm (show 200000000≤1099511627776 by omega))
 have HLP:=Ac (Nat.le_trans (C9 q.num m) (show lim q.num+lim m≤1099511627776 by have:=lq.1;omega))
 have HDN:=Ac (Gp q)
 clear hz hq hm lq lm
 go_enter Tryz.func141,Tryz.ntmps141
 go_wp2_with fail
 generalize w.alloc (zint 158)=wa at *
 generalize hs:w.heap.size=s at *
 refine (Jg wa bq q HQ.out HL1.out).mono ?_
 rintro e w1 ⟨b1,rfl,hn,hb1,hg1⟩
 go_wp2_with fail
 refine (Ct w1 s b1 0 bm 0 0 q.num m (HZ.out.more hg1) hn.at (HM.out.more hg1).at HL1.out HLM.out).mono ?_
 rintro e w2 ⟨rfl,hp,hg2⟩
 have hg12:wa.grownBy w2 (some s):=Ae (C0 hg1) hg2
 have hltq:=HQ.out.lt
 have hqs:bq≠s:=by
  intro e
  have h1:=HQ.out.cells4
  obtain ⟨cs,T,h4,hb⟩:=h1
  obtain ⟨v,T',hb',_⟩:=HZ.out
  rw [e,hb'] at hb
  injection hb with hb
  injection hb with e1 _ _
  subst e1
  simp at h4
 have HQ2:=Ac ((HQ.out.more hg1).other hg2 (HZ.out.more hg1).plain hqs)
 have HP:=Ac hp
 have HG2:=Ac (Aw (Ae ga hg1) hg2 (by omega))
 clear hp hn hg12 hqs hltq
 go_wp2_with fail
 refine (C2 w2 bq q HQ2.out HL2.out).mono ?_
 rintro e w3 ⟨b3,rfl,hd,hb3,hg3⟩
 go_wp2_with fail
 refine (Gf w3 s s 0 b3 0 (q.num*m) (q.num*m) q.den (HP.out.more hg3) (HP.out.more hg3).at hd.at HLP.out HDN.out).mono ?_
 rintro e w4 ⟨rfl,hr,hg4⟩
 go_wp2_with fail
 go_ret
 exact ⟨s,rfl,hr,by omega,Aw (Ae HG2.out hg3) hg4 (by omega)⟩
/-! ### numbers on the grid -/
def onG (v:Int):Bool:=decide (v≤1000000000000000000)&&decide (-1000000000000000000≤v)
theorem P4 (w:World) (x:Int):Calls Tryz.prog 151 #[.int .i64 x] w fun e w'=>e=.returned (.bool (!onG x))∧w=w':=by
 have HU:Hid ((!onG x) = !(decide (x≤1000000000000000000)&&decide (-1000000000000000000≤x))):=Ac rfl
 by_cases h1:1000000000000000000<x
 ·go_enter Tryz.func151,Tryz.ntmps151
  go_wp2_with fail
  go_ret
  exact ⟨Ao (by rw [HU.out];simp;omega),rfl⟩
 ·go_enter Tryz.func151,Tryz.ntmps151
  go_wp2_with fail
  go_ret
  exact ⟨Ao (by rw [HU.out,Bool.eq_iff_iff];simp;omega),rfl⟩
def FIG (r:Int) (l:List Int):Prop:=-1≤r∧(r<0↔l.all onG=true)
set_option maxRecDepth 100000 in
theorem Lm (w:World) (v:Value) (l:List Int) (hr:IntRow w v l) :
  Calls Tryz.prog 229 #[v,.func (.func 151) #[] #[]] w fun e w'=>∃ r:Int,e=.returned (.int .i64 r)∧Hid (FIG r l)∧w=w':=by
 have HR:=Ac hr
 obtain ⟨A,c,rfl,h1,h2⟩:=hr.ctor
 clear hr
 go_enter Tryz.func229,Tryz.ntmps229
 go_wp2_with fail
 go_loopw [8] (fun i wr=>∃ k:Nat,k≤l.length∧i=.int .i64 k∧Hid (∀ t,t<k→onG (l.getD t 0)=true)∧wr=w) (fun i _=>l.length-(intOf i).toNat)
 case atStart=>exact ⟨0,Nat.zero_le _,rfl,Ac (fun t ht=>by omega),rfl⟩
 case round =>
  obtain ⟨k,hk,rfl,hS,rfl⟩:=hrel
  by_cases hlt:k<l.length
  ·obtain ⟨b,o,rfl,hI,hc⟩:=HR.out.at hlt
   generalize hx:l.getD k 0=x at *
   have HX:=Ac hx
   clear hx
   go_wp2_with fail
   refine (P4 wr x).mono ?_
   rintro e w1 ⟨rfl,rfl⟩
   cases hd:onG x with
   | false =>
    have HD:=Ac hd
    clear hd
    go_wp2_with fail
    go_ret
    refine ⟨_,rfl,Ac ⟨by omega,⟨fun h=>by omega,fun h=>?_⟩⟩,rfl⟩
    rw [List.all_eq_true] at h
    have:=h x (by rw [←HX.out];simp [List.getD,List.getElem?_eq_getElem hlt])
    rw [HD.out] at this
    cases this
   | true =>
    have HD:=Ac hd
    clear hd
    go_wp2_with fail
    exact ⟨⟨k+1,by omega,by go_num,Ac (fun t ht=>by
     by_cases htk:t=k
     ·subst htk;rw [HX.out];exact HD.out
     ·exact hS.out t (by omega)),trivial⟩,by simp [intOf];omega⟩
  ·obtain rfl:k=l.length:=by omega
   go_wp2_with fail
   go_ret
   refine ⟨_,rfl,Ac ⟨by omega,⟨fun _=>?_,fun _=>by omega⟩⟩,rfl⟩
   rw [List.all_eq_true]
   intro x hx
   obtain ⟨j,hj,rfl⟩:=List.mem_iff_getElem.1 hx
   have:=hS.out j hj
   rwa [show l.getD j 0=l[j] by simp [List.getD,List.getElem?_eq_getElem hj]] at this
theorem Jr (w:World) (v:Value) (l:List Int) (hr:IntRow w v l) :
  Calls Tryz.prog 150 #[v,.func (.func 151) #[] #[]] w fun e w'=>e=.returned (.bool (!l.all onG))∧w=w':=by
 have h:=Lm w v l hr
 obtain ⟨A,c,rfl,h1,h2⟩:=hr.ctor
 have HH:=Ac h
 clear hr h
 go_enter Tryz.func150,Tryz.ntmps150
 go_wp2_with fail
 refine HH.out.mono ?_
 rintro e w1 ⟨r,rfl,hf,rfl⟩
 have h1:=hf.out.1
 by_cases hneg:r<0
 ·have hz:¬ (0:Int)≤r:=by omega
  have HA:=Ac (hf.out.2.1 hneg)
  go_wp2_with fail
  go_ret
  exact ⟨Ao (by rw [HA.out];simp;omega),rfl⟩
 ·have hz:(0:Int)≤r:=by omega
  have HA:Hid (l.all onG=false):=Ac (by
   cases hh:l.all onG
   ·rfl
   ·exact absurd (hf.out.2.2 hh) hneg)
  go_wp2_with fail
  go_ret
  exact ⟨Ao (by rw [HA.out];simp),rfl⟩
theorem La (w:World) (v:Value) (l:List Int) (hr:IntRow w v l) :
  Calls Tryz.prog 70 #[v] w fun e w'=>e=.returned (.bool (l.all onG))∧w=w':=by
 have h:=Jr w v l hr
 obtain ⟨A,c,rfl,h1,h2⟩:=hr.ctor
 have HH:=Ac h
 clear hr h
 go_enter Tryz.func70,Tryz.ntmps70
 go_wp2_with fail
 refine HH.out.mono ?_
 rintro e w1 ⟨rfl,rfl⟩
 go_wp2_with fail
 go_ret
 exact ⟨Ao (by first | rfl | simp),rfl⟩
end
section
open Go.RowKit
open Rat
theorem Blk.seven {w:World} {b:Nat} {x0 x1 x2 x3 x4 x5 x6:Value} (h:Blk w b #[x0,x1,x2,x3,x4,x5,x6]) :
  w.cell? ⟨b,0,none⟩=some x0∧w.cell? ⟨b,1,none⟩=some x1∧w.cell? ⟨b,2,none⟩=some x2∧w.cell? ⟨b,3,none⟩=some x3∧w.cell? ⟨b,4,none⟩=some x4∧w.cell? ⟨b,5,none⟩=some x5∧w.cell? ⟨b,6,none⟩=some x6 :=
 ⟨h.cell 0,h.cell 1,h.cell 2,h.cell 3,h.cell 4,h.cell 5,h.cell 6⟩
theorem Kl {l:List RowP} {k:Nat} (hk:k<l.length) (h:¬ Pk l.length (l.getD k row0)):sysE l=130:=by
 unfold sysE;rw [if_neg];exact fun hh=>h (hh.2 k hk)
set_option maxRecDepth 100000 in
theorem Ix (w:World) (v:Value) (l:List RowP) (hl:SysRow w v l) :
  Calls Tryz.prog 27 #[.agg #[v]] w fun e w'=>e=.returned (.int .i64 (sysE l))∧w.grownBy w' none:=by
 obtain ⟨A,c,rfl,h1,h2⟩:=hl.ctor
 have gw:=Af w (.cells #[.slice A l.length c] 38) none
 have hB:=Blk.new w #[.slice A l.length c] 38
 have c0:(w.alloc (.cells #[.slice A l.length c] 38)).cell? ⟨w.heap.size,0,none⟩=some (.slice A l.length c):=hB.cell 0
 obtain ⟨R,hR⟩:∃ R,sysE l=R:=⟨_,rfl⟩
 rw [hR]
 have HR:=Ac hR
 have HL:=Ac (hl.more gw)
 clear hR hl hB
 by_cases h48:48<l.length
 ·have HF:Hid (R=130):=Ac (by rw [←HR.out];unfold sysE;rw [if_neg];exact fun h=>by have:=h.1;omega)
  generalize l.length=n at *
  go_enter Tryz.func27,Tryz.ntmps27
  go_wp2_with fail
  go_ret
  exact ⟨B9 HF.out.symm,gw⟩
 go_enter Tryz.func27,Tryz.ntmps27
 go_wp2_with fail
 generalize w.alloc (.cells #[.slice A l.length c] 38)=wa at *
 generalize w.heap.size=s at *
 go_loopw [14] (fun i wr=>∃ k:Nat,k≤l.length∧i=.int .i64 k∧wa.grownBy wr none∧Hid (∀ t,t<k→Pk l.length (l.getD t row0))) (fun i _=>(l.length-intOf i).toNat)
 case atStart=>exact ⟨0,by omega,rfl,Al _ _,Ac (fun t ht=>by omega)⟩
 case round =>
  obtain ⟨k,hk,rfl,hg,hb⟩:=hrel
  by_cases hlt:k<l.length
  ·obtain ⟨b,o,Am,nm,cm,Aa,ca,Ah,ch,As,cs,Ak,nk,ck,rfl,q0,q1,q2,q3,q4,q5,q6,rm,ra,rh,rs,rk⟩:=(HL.out.more hg).at hlt
   generalize hx:l.getD k row0=r at *
   have HX:=Ac hx
   clear hx
   have ga:=Af wr (.cells #[.bool r.mneg,.slice Am nm cm,.slice Aa r.a.length ca,.slice Ah r.h.length ch,.slice As r.s.length cs,.bool r.kneg,.slice Ak nk ck] 52) none
   have hBX:=Blk.new wr #[.bool r.mneg,.slice Am nm cm,.slice Aa r.a.length ca,.slice Ah r.h.length ch,.slice As r.s.length cs,.bool r.kneg,.slice Ak nk ck] 52
   have HBX:=Ac hBX
   obtain ⟨p0,p1,p2,p3,p4,p5,p6⟩:=hBX.seven
   have hnm:=rm.form
   obtain ⟨A',c',hnm,_,_⟩:=hnm
   injection hnm with e1 hnm e3
   clear e1 e3
   have HNM:=Ac hnm
   have HM:=Ac (Db _ r.mneg _ r.mlimbs (rm.more ga))
   have HRK:=Ac (rk.more ga)
   have HRA:=Ac (ra.more ga)
   have HRH:=Ac (rh.more ga)
   have HRS:=Ac (rs.more ga)
   have HG:=Ac (Ae gw (Ae hg ga))
   have HG1:=Ac (Ae hg ga)
   clear rm rk ra rh rs hnm hBX
   go_wp2_with fail
   refine HM.out.mono ?_
   rintro e w1 ⟨rfl,g1⟩
   clear p0 p1 p2 p3 p4 p5 p6 q0 q1 q2 q3 q4 q5 q6
   obtain ⟨p0,p1,p2,p3,p4,p5,p6⟩:=(HBX.out.more g1).seven
   by_cases hM:IntOK r.mneg r.mlimbs
   case neg =>
    rw [if_neg hM]
    have HMM:=Ac hM
    clear hM
    go_wp2_with fail
    go_ret
    exact ⟨B9 (by rw [←HR.out];exact (Kl hlt (by rw [HX.out];exact fun h=>HMM.out h.1)).symm),Ae HG.out g1⟩
   rw [if_pos hM]
   cases hmn:r.mneg with
   | true =>
    have HMM:=Ac hmn
    rw [hmn] at p0
    clear hM hmn
    go_wp2_with fail
    go_ret
    exact ⟨B9 (by rw [←HR.out];exact (Kl hlt (by rw [HX.out];exact fun h=>by have:=h.2.1;rw [HMM.out] at this;cases this)).symm),Ae HG.out g1⟩
   | false =>
    have HM1:=Ac hM
    have HM2:=Ac hmn
    rw [hmn] at p0
    clear hM hmn
    by_cases hz:nm=0
    ·have tz:((nm:Int)==0)=true:=by rw [beq_iff_eq];omega
     have HZ:Hid (r.mlimbs=[]):=Ac (List.eq_nil_of_length_eq_zero (by rw [←HNM.out];exact hz))
     clear hz
     go_wp2_with fail
     go_ret
     exact ⟨B9 (by rw [←HR.out];exact (Kl hlt (by rw [HX.out];exact fun h=>h.2.2.1 HZ.out)).symm),Ae HG.out g1⟩
    have tz:((nm:Int)==0)=false:=by rw [beq_eq_false_iff_ne];omega
    have HZ:Hid (r.mlimbs≠[]):=Ac (fun h=>hz (by rw [HNM.out,h];rfl))
    clear hz
    have HKC:=Ac (Db w1 r.kneg _ r.klimbs (HRK.out.more g1))
    go_wp2_with fail
    refine HKC.out.mono ?_
    rintro e w2 ⟨rfl,g2⟩
    clear p0 p1 p2 p3 p4 p5 p6
    obtain ⟨p0,p1,p2,p3,p4,p5,p6⟩:=(HBX.out.more (Ae g1 g2)).seven
    by_cases hK:IntOK r.kneg r.klimbs
    case neg =>
     rw [if_neg hK]
     have HMM:=Ac hK
     clear hK
     go_wp2_with fail
     go_ret
     exact ⟨B9 (by rw [←HR.out];exact (Kl hlt (by rw [HX.out];exact fun h=>HMM.out h.2.2.2.1)).symm),Ae HG.out (Ae g1 g2)⟩
    rw [if_pos hK]
    have HK:=Ac hK
    clear hK
    have g12:=Ae g1 g2
    have HCA:=Ac (Fn w2 _ r.a l.length (HRA.out.more g12))
    clear g1 g2
    go_wp2_with fail
    refine HCA.out.mono ?_
    rintro e w3 ⟨rfl,g3⟩
    clear p0 p1 p2 p3 p4 p5 p6
    have g13:=Ae g12 g3
    obtain ⟨p0,p1,p2,p3,p4,p5,p6⟩:=(HBX.out.more g13).seven
    cases hca:decide (Dh l.length r.a) with
    | false =>
     have HMM:=Ac (of_decide_eq_false hca)
     clear hca
     go_wp2_with fail
     go_ret
     exact ⟨B9 (by rw [←HR.out];exact (Kl hlt (by rw [HX.out];exact fun h=>HMM.out h.2.2.2.2.1)).symm),Ae HG.out g13⟩
    | true =>
     have HA:=Ac (of_decide_eq_true hca)
     have HCH:=Ac (Fn w3 _ r.h l.length (HRH.out.more g13))
     clear hca g12 g3
     go_wp2_with fail
     refine HCH.out.mono ?_
     rintro e w4 ⟨rfl,g4⟩
     clear p0 p1 p2 p3 p4 p5 p6
     have g14:=Ae g13 g4
     obtain ⟨p0,p1,p2,p3,p4,p5,p6⟩:=(HBX.out.more g14).seven
     cases hch:decide (Dh l.length r.h) with
     | false =>
      have HMM:=Ac (of_decide_eq_false hch)
      clear hch
      go_wp2_with fail
      go_ret
      exact ⟨B9 (by rw [←HR.out];exact (Kl hlt (by rw [HX.out];exact fun h=>HMM.out h.2.2.2.2.2.1)).symm),Ae HG.out g14⟩
     | true =>
      have HH:=Ac (of_decide_eq_true hch)
      have HCS:=Ac (Fn w4 _ r.s 64 (HRS.out.more g14))
      clear hch g13 g4
      go_wp2_with fail
      refine HCS.out.mono ?_
      rintro e w5 ⟨rfl,g5⟩
      have g15:=Ae g14 g5
      cases hcs:decide (Dh 64 r.s) with
      | false =>
       have HMM:=Ac (of_decide_eq_false hcs)
       clear hcs
       go_wp2_with fail
       go_ret
       exact ⟨B9 (by rw [←HR.out];exact (Kl hlt (by rw [HX.out];exact fun h=>HMM.out h.2.2.2.2.2.2)).symm),Ae HG.out g15⟩
      | true =>
       have HS:=Ac (of_decide_eq_true hcs)
       clear hcs
       go_wp2_with fail
       exact ⟨⟨k+1,by omega,by go_num,Ae HG1.out g15,Ac (fun t ht=>by
        by_cases htk:t=k
        ·subst htk;rw [HX.out];exact ⟨HM1.out,HM2.out,HZ.out,HK.out,HA.out,HH.out,HS.out⟩
        ·exact hb.out t (by omega))⟩,by simp [intOf];omega⟩
  ·obtain rfl:k=l.length:=by omega
   have HF:Hid (R=0):=Ac (by rw [←HR.out];unfold sysE;rw [if_pos];exact ⟨by omega,hb.out⟩)
   go_wp2_with fail
   go_ret
   exact ⟨B9 HF.out.symm,Ae gw hg⟩
end
section
open Go.RowKit
open Rat
def accZ (k:Int) (l:List CellP) (x:List Int):Nat→Int
 | 0=>k
 | t+1=>accZ k l x t+(l.getD t Br).z*x.getD (l.getD t Br).col.toNat 0
def A1o (r:RowP) (prev src:List Int):Int:=accZ (accZ r.k r.h prev r.h.length) r.s src r.s.length
theorem Kv {n:Int} {l:List CellP} (h:Dh n l):∀ t:Nat,t<l.length→(t:Int)≤(l.getD t Br).col
 | 0,ht=>by have:=(h 0 ht).1;omega
 | t+1,ht=>by
  have h1:=Kv h t (by omega)
  have h2:=(h (t+1) ht).2.2.1 (by omega)
  rw [Nat.add_sub_cancel] at h2
  omega
theorem Pc {n:Int} {l:List CellP} (h:Dh n l) (hn:0≤n):(l.length:Int)≤n:=by
 by_cases h0:l.length=0
 ·omega
 ·have h1:=Kv h (l.length-1) (by omega)
  have h2:=(h (l.length-1) (by omega)).2.1
  omega
theorem Se {n:Int} {l:List CellP} {t:Nat} (h:Dh n l) (ht:t<l.length) (hb:∀ x∈(l.getD t Br).limbs,x<4294967296):lim (l.getD t Br).z≤72:=by
 have h4:=(h t ht).2.2.2.1.1
 exact Nat.le_trans (Ij hb) h4
theorem Nf {k:Int} {l:List CellP} {x:List Int} {b:Nat} (hk:lim k≤74+b) (hc:∀ t,t<l.length→lim (l.getD t Br).z≤72) (hx:∀ i,I64 (x.getD i 0)):∀ t,t≤l.length→lim (accZ k l x t)≤74+b+t
 | 0,_=>hk
 | t+1,ht=>by
  have h1:=Nf hk hc hx t (by omega)
  have h2:lim ((l.getD t Br).z*x.getD (l.getD t Br).col.toNat 0)≤74:=by
   have a:=C9 (l.getD t Br).z (x.getD (l.getD t Br).col.toNat 0)
   have b:=hc t (by omega)
   have c:=Ii (hx (l.getD t Br).col.toNat).1 (hx (l.getD t Br).col.toNat).2
   omega
  have:=Mz (x:=accZ k l x t) (y:=(l.getD t Br).z*x.getD (l.getD t Br).col.toNat 0) (k:=74+b+t) h1 (by omega)
  exact this
def IntsR (w:World) (xs:List Value):List Int→Prop
 | []=>xs=[]
 | z::L=>∃ A n c rest,xs=[.bool (decide (z<0)),.slice A n c]++rest∧Nums w (.slice A n c) (digs z)∧IntsR w rest L
theorem IntsR.snoc {w:World} {A:Option Addr} {n c:Nat} {z:Int} (hs:Nums w (.slice A n c) (digs z)):∀ {xs:List Value} {L:List Int},IntsR w xs L→IntsR w (xs++[.bool (decide (z<0)),.slice A n c]) (L++[z])
 | xs,[],h=>by
  have:xs=[]:=h
  subst this
  exact ⟨A,n,c,[],by simp,hs,rfl⟩
 | xs,t::L,⟨A1,n1,c1,rest,e,h1,h2⟩=>⟨A1,n1,c1,rest++[.bool (decide (z<0)),.slice A n c],by rw [e,List.append_assoc],h1,h2.snoc hs⟩
theorem IntsR.imp {w w':World} (hi:∀ v ds,Nums w v ds→Nums w' v ds):∀ {xs:List Value} {L:List Int},IntsR w xs L→IntsR w' xs L
 | _,[],h=>h
 | _,_::_,⟨A1,n1,c1,rest,e,h1,h2⟩=>⟨A1,n1,c1,rest,e,hi _ _ h1,h2.imp hi⟩
theorem IntsR.length {w:World}:∀ {xs:List Value} {L:List Int},IntsR w xs L→xs.length=L.length*2
 | _,[],h=>by have:_=[]:=h;subst this;rfl
 | _,_::L,⟨_,_,_,rest,e,_,h2⟩=>by rw [e,List.length_append,h2.length,List.length_cons];simp;omega
theorem IntsR.at {w:World}:∀ {xs:List Value} {L:List Int},IntsR w xs L→∀ i (hi:i<L.length),∃ A n c,xs[i*2]? = some (.bool (decide (L[i]<0)))∧xs[i*2+1]? = some (.slice A n c)∧Nums w (.slice A n c) (digs L[i])
 | _,[],_,i,hi=>by simp at hi
 | _,z::L,⟨A,n,c,rest,e,h1,h2⟩,0,hi=>⟨A,n,c,by rw [e];rfl,by rw [e];rfl,h1⟩
 | _,z::L,⟨A,n,c,rest,e,h1,h2⟩,i+1,hi=>by
  obtain ⟨A',n',c',h3,h4,h5⟩:=h2.at i (by simpa using hi)
  refine ⟨A',n',c',?_,?_,h5⟩
  ·rw [e,show (i+1)*2=i*2+1+1 by omega];exact h3
  ·rw [e,show (i+1)*2+1=i*2+1+1+1 by omega];exact h4
def ZRow (w:World) (v:Value) (L:List Int):Prop :=
 ∃ A c,v=.slice A L.length c∧(0<L.length→∃ b,A=some ⟨b,0,none⟩∧∀ i (hi:i<L.length),∃ A' n' c',w.cell? ⟨b,i*2,none⟩=some (.bool (decide (L[i]<0)))∧w.cell? ⟨b,i*2+1,none⟩=some (.slice A' n' c')∧Nums w (.slice A' n' c') (digs L[i]))
def N2 (l:List RowP) (m:Nat):Prop:=∀ i,i<l.length→(l.getD i row0).s.length=0∨((l.getD i row0).s.getD ((l.getD i row0).s.length-1) Br).col<(m:Int)
instance (l:List RowP) (m:Nat):Decidable (N2 l m):=by unfold N2;infer_instance
def Ha (l:List RowP) (prev src:List Int):List Int:=l.map fun r=>A1o r prev src
def rhsE (l:List RowP) (prev src:List Int):Int :=
 if sysE l≠0 then sysE l
 else if prev.length≠l.length then 5
 else if ¬ N2 l src.length then 5
 else if !(prev.all onG&&src.all onG) then 4
 else if ∀ i,i<l.length→lim ((Ha l prev src).getD i 0)≤72 then 0 else 13
def rhsV (l:List RowP) (prev src:List Int):List Int:=if rhsE l prev src=0 then Ha l prev src else []
end
section
open Go.RowKit
theorem Rc (w:World) (s:ByteArray) :
  Calls Tryz.prog 202 #[.string s] w fun e w'=>e=.returned (.bool (D9 s.data.toList))∧w.grownBy w' none:=by
 go_enter Tryz.func202,Tryz.ntmps202
 go_wp2_with fail
 refine (Na w s).mono ?_
 rintro e w1 ⟨rfl,hg⟩
 go_wp2
 go_ret
 exact ⟨rfl,hg⟩
end
section
open Go.RowKit Go.Maps
theorem lawS:Keyed Tryz.prog 9:=string_keyed Tryz.underlying9
theorem A1q (w:World):(zeroValue 3).run Tryz.prog w=.ok (.int .i64 0) w:=by kernel_rfl
def strs (l:List ByteArray):List Value:=l.map Value.string
theorem Bt (l:List ByteArray):(strs l).length=l.length:=by simp [strs]
theorem I2 (l:List ByteArray) (i:Nat) (h:i<l.length):(strs l)[i]? = some (.string (l.getD i default)):=by
 simp [strs,List.getElem?_eq_getElem h,List.getD]
def key (s:ByteArray):Lit:=.string s.data.toList
theorem A0h {s t:ByteArray} (h:key s=key t):s=t:=by
 injection h with h
 cases s;cases t
 simpa using h
def Qe (l:List ByteArray) (k:Nat) (D:DataW Unit):Prop :=
 IsMap D∧Tidy D∧(∀ s:ByteArray,Maps.has D (key s)=true↔s∈l.take k)∧(Maps.size D=k↔(l.take k).Nodup)∧Maps.size D≤k
theorem Te (l:List ByteArray):Qe l 0 (.map []):=by
 refine ⟨isMap_empty,tidy_empty,fun s=>?_,?_,Nat.le_refl _⟩
 ·simp [Maps.has_eq]
 ·simp [Maps.size_eq]
theorem A1l (s:ByteArray):WideAt.IsKeyLit (key s):=trivial
theorem Tc {l:List ByteArray} {k:Nat} {D:DataW Unit} (h:Qe l k D) (hk:k<l.length) (d:DataW Unit):Qe l (k+1) (D.put (key (l.getD k default)) d):=by
 obtain ⟨h0,ht,h1,h2,h3⟩:=h
 have e:l.take (k+1)=l.take k++[l.getD k default]:=by
  rw [List.take_succ_eq_append_getElem hk];simp [List.getD,List.getElem?_eq_getElem hk]
 have hs:Maps.size (D.put (key (l.getD k default)) d)=if Maps.has D (key (l.getD k default)) then Maps.size D else Maps.size D+1:=size_put ht _
 refine ⟨h0.put _ _,ht.put (A1l _) _,fun s=>?_,?_,?_⟩
 ·by_cases hs:s=l.getD k default
  ·subst hs
   rw [has_put_same h0 (A1l _),e]
   simp
  ·have hne:key s≠key (l.getD k default):=fun hh=>hs (A0h hh)
   rw [has_put_other hne,h1,e,List.mem_append,List.mem_singleton]
   exact ⟨.inl,fun h=>h.resolve_right hs⟩
 ·rw [hs,e,List.nodup_append]
  by_cases hm:l.getD k default∈l.take k
  ·rw [if_pos ((h1 _).2 hm)]
   constructor
   ·intro hh;omega
   ·intro hh
    exact absurd rfl (hh.2.2 _ hm _ (by simp))
  ·rw [if_neg (fun hh=>hm ((h1 _).1 hh))]
   constructor
   ·intro hh
    refine ⟨h2.1 (by omega),by simp,fun a ha b hb e=>?_⟩
    simp at hb
    subst hb
    subst e
    exact hm ha
   ·intro hh
    have:=h2.2 hh.1
    omega
 ·rw [hs];split<;>omega
set_option maxRecDepth 100000 in
theorem Mt (w:World) (v:Value) (l:List ByteArray) (hr:Row w v (strs l)) (hb:∀ s∈l,s.size≤9223372036854775807) (hn:l.length≤1099511627776) :
  Calls Tryz.prog 132 #[v] w fun e w'=>e=.returned (.bool (decide (¬ l.Nodup)))∧w.grownBy w' none:=by
 have hmm:=@run_makeMap Tryz.prog
 have HR:=Ac hr
 obtain ⟨A,c,rfl,h1,h2,h3⟩:=hr
 rw [Bt] at *
 have HB:=Ac hb
 obtain ⟨R,hR⟩:∃ R,decide (¬ l.Nodup)=R:=⟨_,rfl⟩
 rw [hR]
 have HRR:=Ac hR
 clear hR hb
 have H3:=Ac h3
 clear h3
 go_enter Tryz.func132,Tryz.ntmps132
 go_wp2
 generalize hs:w.heap.size=s at *
 go_loopw [9] (fun i wr=>∃ (k:Nat) (D:DataW Unit),k≤l.length∧i=.int .i64 k∧wr.ownsMap Tryz.prog 9 (plainElem Tryz.prog 3) s k D∧Hid (Qe l k D)∧w.grownBy wr none) (fun i _=>l.length-(intOf i).toNat)
 case atStart=>exact ⟨0,_,Nat.zero_le _,rfl,by rw [←hs];exact World.ownsMap_made _ _ _ _,Ac (Te l),Af _ _ _⟩
 case round =>
  obtain ⟨k,D,hk,rfl,hown,hS,hg⟩:=hrel
  by_cases hlt:k<l.length
  ·have hcell:∃ b o,A=some ⟨b,o,none⟩∧wr.cell? ⟨b,o+k,none⟩=some (.string (l.getD k default)):=by
    rcases H3.out with ⟨h0,_⟩ | ⟨b,o,rfl,hc⟩
    ·have:=congrArg List.length h0;rw [Bt] at this;exact absurd (show l.length=0 from this) (by omega)
    ·exact ⟨b,o,rfl,Aj hg ((hc k hlt).trans (I2 l k hlt)) (by simp)⟩
   obtain ⟨b,o,rfl,hc⟩:=hcell
   have hsz:(l.getD k default).size≤maxLen:=by
    have:=HB.out (l.getD k default) (by simp [List.getD,List.getElem?_eq_getElem hlt])
    simpa [maxLen] using this
   have hkey:keyOf Tryz.prog 9 (.string (l.getD k default))=some (key (l.getD k default)):=WideMaps.keyOf_string_mk Tryz.underlying9 hsz
   have hstep:=fun d=>Tc hS.out hlt d
   have HST:=Ac hstep
   clear hstep
   generalize l.getD k default=x at *
   go_wp2_with (first
    | (at_lookup;refine wpList_lookup_own_int _ rfl _ _ 275 rfl 9 3 .i64 lawS Tryz.underlying275 Tryz.underlying3 (A1q _) s k _ rfl hown _ _ rfl hkey ?_;intro c hat hwc)
    | (at_mapUpdate;refine wpList_mapUpdate_own _ rfl _ _ _ 275 rfl 9 3 lawS Tryz.underlying275 _ s k _ rfl hown (by unfold maxLen;omega) _ _ _ rfl rfl hkey _ [] (plainElem_int Tryz.underlying3 (wrap64_wf _)) ?_;intro w1 hown1 hgrow1)
    | go_in)
   go_roundw
   case rel=>exact ⟨k+1,_,by omega,by go_num,hown1,Ac (HST.out _),Aw hg hgrow1 (by omega)⟩
   case measure=>simp [intOf];omega
  ·obtain rfl:k=l.length:=by omega
   have hsz:=hS.out
   have HSZ:=Ac hsz
   clear hsz
   go_wp2_with (first
    | (at_len;refine wpList_len_own _ rfl _ 275 rfl 9 3 Tryz.underlying275 _ s _ _ rfl hown ?_)
    | go_in)
   go_ret
   refine ⟨Ao ?_,hg⟩
   rw [←HRR.out]
   have:=HSZ.out.2.2.2.1
   rw [List.take_length] at this
   by_cases hnd:l.Nodup
   ·have:=this.2 hnd
    simp [hnd,this]
   ·have:¬ Maps.size D=l.length:=fun h=>hnd (this.1 h)
    simp [hnd]
    omega
end
end Go.Proofs.YtckbiimikeiejaaGreatDoor
