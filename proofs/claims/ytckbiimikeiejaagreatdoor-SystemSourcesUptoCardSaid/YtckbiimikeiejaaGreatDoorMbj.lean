/- GriA GriB. -/
import Derived.Test.YtckbiimikeiejaaGreatDoorMas
import Derived.Test.YtckbiimikeiejaaGreatDoorMal
import Derived.Deep.RegionLaw
import Derived.Test.YtckbiimikeiejaaGreatDoorMat
import Derived.Test.YtckbiimikeiejaaGreatDoorMag
import Derived.Deep.RegionHeld3
import Derived.Deep.DeepCutAuto
set_option linter.unusedVariables false
set_option linter.unusedSimpArgs false
set_option maxHeartbeats 40000000
namespace Go.Proofs.YtckbiimikeiejaaGreatDoor
section
open Go.RowKit Go.Maps
open Rat
theorem X2 {P:Program} {w:World} {ops:Array Oper} {o:Oper} {a:Act} {K:Act→World→Prop} {Q:Exit→Act→World→Prop} {E:Prop} (hw:Region.wanted o (yielded ops a.tmps)=true) (f:FuncId) (x:Operand) (ty:TypeId)
  (ho:o.op=.call { callee:=.value (.func f),args:=#[x],argTypes:=#[ty] }) (u:Value) (hu:a.eval x=u)
  (henter:∀ args w,(callFunc f args).run P w=.ok (.enter f args) w)
  (R:Value→World→Prop) (hC:Calls P f #[u] w fun e w'=>∃ v,e=.returned v∧R v w') (hK:∀ v w',R v w'→K (a.put o.dst v) w') :
  if Region.wanted o (yielded ops a.tmps)=true then Oper.wp P o a w K Q else E:=by
 rw [if_pos hw]
 have hf:a.eval (.func f)=.func (.func f) #[] #[]:=rfl
 have hrun:(execOp a.eval o).run P w=.ok (.enter f #[u]) w:=by
  generalize a.eval=ev at *
  simp [execOp,ho,resolve,invoke,hu,hf,henter,go_sem]
 unfold Oper.wp
 rw [hrun]
 simp only [Oper.upon]
 refine hC.mono ?_
 rintro e w' ⟨v,rfl,hr⟩
 exact hK v w' hr
theorem X3 {P:Program} {w:World} {ops:Array Oper} {o:Oper} {a:Act} {K:Act→World→Prop} {Q:Exit→Act→World→Prop} {E:Prop} (hw:Region.wanted o (yielded ops a.tmps)=true) (f:FuncId) (x y:Operand) (tx ty:TypeId)
  (ho:o.op=.call { callee:=.value (.func f),args:=#[x,y],argTypes:=#[tx,ty] }) (u v:Value) (hu:a.eval x=u) (hv:a.eval y=v)
  (henter:∀ args w,(callFunc f args).run P w=.ok (.enter f args) w)
  (R:Value→World→Prop) (hC:Calls P f #[u,v] w fun e w'=>∃ v,e=.returned v∧R v w') (hK:∀ v w',R v w'→K (a.put o.dst v) w') :
  if Region.wanted o (yielded ops a.tmps)=true then Oper.wp P o a w K Q else E:=by
 rw [if_pos hw]
 have hf:a.eval (.func f)=.func (.func f) #[] #[]:=rfl
 have hrun:(execOp a.eval o).run P w=.ok (.enter f #[u,v]) w:=by
  generalize a.eval=ev at *
  simp [execOp,ho,resolve,invoke,hu,hv,hf,henter,go_sem]
 unfold Oper.wp
 rw [hrun]
 simp only [Oper.upon]
 refine hC.mono ?_
 rintro e w' ⟨v,rfl,hr⟩
 exact hK v w' hr
theorem A2x:(d16 (-9223372036854775808)).length≤1099511627776:=by decide +kernel
theorem A2w:(d16 9223372036854775807).length≤1099511627776:=by decide +kernel
theorem A3x {z:Int} (k:Nat):val 65536 ((d16 z).drop k)≤z.natAbs:=by
 induction k with
 | zero=>rw [List.drop_zero];unfold d16;rw [Ck _ (by omega)];exact Nat.le_refl _
 | succ k ih =>
  by_cases hk:k<(d16 z).length
  ·have:=Hf 65536 (d16 z) k hk
   omega
  ·rw [List.drop_eq_nil_of_le (by omega)];simp [val]
set_option maxRecDepth 100000 in
theorem A2s (w:World) (nv:Value) (z:Int) (hx:NZ w nv z) (lx:(d16 z).length≤1099511627776) :
    Calls Tryz.prog 240 #[nv] w fun e w'=>e=.returned (.tuple #[.int .i64 (if -9223372036854775808≤z∧z≤9223372036854775807 then z else 0),.bool (decide (-9223372036854775808≤z∧z≤9223372036854775807))])∧w.grownBy w' none:=by
  obtain ⟨A,c,rfl,hd⟩:=hx.form
  have ga:=Af w (.cells #[.bool (decide (z<0)),.slice A (d16 z).length c] 139) none
  have HZ:=Ac (hx.more ga)
  have HD:=Ac (hd.more ga)
  have HLX:=Ac lx
  obtain ⟨x0,x1,_⟩:=(Blk.new w #[.bool (decide (z<0)),.slice A (d16 z).length c] 139).two
  have HGW:=Ac ga
  clear hx hd ga
  generalize hn:(d16 z).length=n at *
  have HN:=Ac hn
  clear hn
  generalize hsg:decide (z<0)=sg at *
  have HSG:=Ac hsg
  clear hsg
  go_enter Tryz.func240,Tryz.ntmps240
  go_wp2_with fail
  generalize w.alloc (.cells #[.bool sg,.slice A n c] 139)=wa at *
  generalize w.heap.size=s at *
  have HKK:=Ac (fun W (h:wa.grownBy W none)=>(⟨Aj h x0 (by simp),Aj h x1 (by simp)⟩:W.cell? ⟨s,0,none⟩=some (.bool sg)∧W.cell? ⟨s,1,none⟩=some (.slice A n c)))
  have EW:=Ac (show ∀ args w,(callFunc 160 args).run Tryz.prog w=.ok (.enter 160 args) w from enters_of Tryz.func160 (by kernel_rfl) rfl)
  have EH:=Ac (show ∀ args w,(callFunc 197 args).run Tryz.prog w=.ok (.enter 197 args) w from enters_of Tryz.func197 (by kernel_rfl) rfl)
  have HWI:Hid (∀ (x:Int) (h1:-9223372036854775808≤x) (h2:x≤9223372036854775807) W,Calls Tryz.prog 160 #[.int .i64 x] W fun e w'=>∃ v,e=.returned v∧(NZ w' v x∧W.grownBy w' none)):=Ac fun x h1 h2 W=>Rm W x h1 h2
  by_cases h1:z < -9223372036854775808
  · have HNO:Hid (¬ (-9223372036854775808≤z∧z≤9223372036854775807)):=Ac (by omega)
    have e1:(if z - -9223372036854775808=0 then (0:Int) else if z - -9223372036854775808<0 then -1 else 1) = -1:=by rw [if_neg (by omega),if_pos (by omega)]
    have H1:=Ac e1
    clear e1 h1
    have H2:Hid (∃ E:Int,(if z-9223372036854775807=0 then (0:Int) else if z-9223372036854775807<0 then -1 else 1)=E):=Ac ⟨_,rfl⟩
    obtain ⟨E2,H2⟩:=H2.out
    have H2:=Ac H2
    have HH1:Hid (∀ W v,wa.grownBy W none→NZ W v (-9223372036854775808)→Calls Tryz.prog 197 #[.agg #[.bool sg,.slice A n c],v] W fun e w'=>∃ u,e=.returned u∧(u=.int .i64 (-1)∧W.grownBy w' none)):=Ac fun W v hW hv=>(Rj W _ v z (-9223372036854775808) (HZ.out.more hW) hv (by rw [HN.out];exact HLX.out) A2x).mono fun e w' h=>⟨_,h.1,by rw [H1.out],h.2⟩
    have HH2:Hid (∀ W v,wa.grownBy W none→NZ W v 9223372036854775807→Calls Tryz.prog 197 #[.agg #[.bool sg,.slice A n c],v] W fun e w'=>∃ u,e=.returned u∧(u=.int .i64 E2∧W.grownBy w' none)):=Ac fun W v hW hv=>(Rj W _ v z 9223372036854775807 (HZ.out.more hW) hv (by rw [HN.out];exact HLX.out) A2w).mono fun e w' h=>⟨_,h.1,by rw [H2.out],h.2⟩
    go_region_law (first
     | (refine Fo (by rfl) 160 (.const (.int .i64 (-9223372036854775808))) _ (by rfl) (.int .i64 (-9223372036854775808)) (by rfl) EW.out _ (HWI.out (-9223372036854775808) (by decide) (by decide) _) ?_;rintro v2 w2 ⟨hv2,hg2⟩;obtain ⟨x0,x1⟩:=HKK.out w2 (by (focus ((repeat (first | assumption | exact Al _ _ | exact Ai _ _ | exact Af _ _ _ | refine Ae ?_ (Af _ _ _) | refine Ae ?_ (Ai _ _) | refine Ae ?_ (by assumption)));done))))
     | (refine Va (by rfl) 197 (.tmp 6) (.tmp 7) _ _ (by rfl) (.agg #[.bool sg,.slice A n c]) v2 (by rfl) (by rfl) EH.out _ (HH1.out _ v2 (by (focus ((repeat (first | assumption | exact Al _ _ | exact Ai _ _ | exact Af _ _ _ | refine Ae ?_ (Af _ _ _) | refine Ae ?_ (Ai _ _) | refine Ae ?_ (by assumption)));done))) hv2) ?_;rintro v3 w3 ⟨rfl,hg3⟩;obtain ⟨x0,x1⟩:=HKK.out w3 (by (focus ((repeat (first | assumption | exact Al _ _ | exact Ai _ _ | exact Af _ _ _ | refine Ae ?_ (Af _ _ _) | refine Ae ?_ (Ai _ _) | refine Ae ?_ (by assumption)));done))))
     | (refine X2 (by rfl) 160 (.const (.int .i64 9223372036854775807)) _ (by rfl) (.int .i64 9223372036854775807) (by rfl) EW.out _ (HWI.out 9223372036854775807 (by decide) (by decide) _) ?_;rintro v4 w4 ⟨hv4,hg4⟩;obtain ⟨x0,x1⟩:=HKK.out w4 (by (focus ((repeat (first | assumption | exact Al _ _ | exact Ai _ _ | exact Af _ _ _ | refine Ae ?_ (Af _ _ _) | refine Ae ?_ (Ai _ _) | refine Ae ?_ (by assumption)));done))))
     | (refine X3 (by rfl) 197 (.tmp 11) (.tmp 12) _ _ (by rfl) (.agg #[.bool sg,.slice A n c]) v4 (by rfl) (by rfl) EH.out _ (HH2.out _ v4 (by (focus ((repeat (first | assumption | exact Al _ _ | exact Ai _ _ | exact Af _ _ _ | refine Ae ?_ (Af _ _ _) | refine Ae ?_ (Ai _ _) | refine Ae ?_ (by assumption)));done))) hv4) ?_;rintro v5 w5 ⟨rfl,hg5⟩;obtain ⟨x0,x1⟩:=HKK.out w5 (by (focus ((repeat (first | assumption | exact Al _ _ | exact Ai _ _ | exact Af _ _ _ | refine Ae ?_ (Af _ _ _) | refine Ae ?_ (Ai _ _) | refine Ae ?_ (by assumption)));done))))
     | (fail))
    all_goals
      go_wp2_with fail
      go_ret2
      try rw [if_neg HNO.out,decide_eq_false HNO.out]
      exact ⟨rfl,Ae HGW.out (by (focus ((repeat (first | assumption | exact Al _ _ | exact Ai _ _ | exact Af _ _ _ | refine Ae ?_ (Af _ _ _) | refine Ae ?_ (Ai _ _) | refine Ae ?_ (by assumption)));done)))⟩
  obtain ⟨E1,hE1,hE1'⟩:∃ E:Int,(if z - -9223372036854775808=0 then (0:Int) else if z - -9223372036854775808<0 then -1 else 1)=E∧decide (E<0)=false:=⟨_,rfl,by rw [decide_eq_false_iff_not];split<;>(try split)<;>omega⟩
  have H1:=Ac hE1
  clear hE1
  by_cases h2:9223372036854775807<z
  · have HNO:Hid (¬ (-9223372036854775808≤z∧z≤9223372036854775807)):=Ac (by omega)
    have e1:(if z-9223372036854775807=0 then (0:Int) else if z-9223372036854775807<0 then -1 else 1)=1:=by rw [if_neg (by omega),if_neg (by omega)]
    have H2:=Ac e1
    clear e1 h1 h2
    have HH1:Hid (∀ W v,wa.grownBy W none→NZ W v (-9223372036854775808)→Calls Tryz.prog 197 #[.agg #[.bool sg,.slice A n c],v] W fun e w'=>∃ u,e=.returned u∧(u=.int .i64 E1∧W.grownBy w' none)):=Ac fun W v hW hv=>(Rj W _ v z (-9223372036854775808) (HZ.out.more hW) hv (by rw [HN.out];exact HLX.out) A2x).mono fun e w' h=>⟨_,h.1,by rw [H1.out],h.2⟩
    have HH2:Hid (∀ W v,wa.grownBy W none→NZ W v 9223372036854775807→Calls Tryz.prog 197 #[.agg #[.bool sg,.slice A n c],v] W fun e w'=>∃ u,e=.returned u∧(u=.int .i64 1∧W.grownBy w' none)):=Ac fun W v hW hv=>(Rj W _ v z 9223372036854775807 (HZ.out.more hW) hv (by rw [HN.out];exact HLX.out) A2w).mono fun e w' h=>⟨_,h.1,by rw [H2.out],h.2⟩
    go_region_law (first
     | (refine Fo (by rfl) 160 (.const (.int .i64 (-9223372036854775808))) _ (by rfl) (.int .i64 (-9223372036854775808)) (by rfl) EW.out _ (HWI.out (-9223372036854775808) (by decide) (by decide) _) ?_;rintro v2 w2 ⟨hv2,hg2⟩;obtain ⟨x0,x1⟩:=HKK.out w2 (by (focus ((repeat (first | assumption | exact Al _ _ | exact Ai _ _ | exact Af _ _ _ | refine Ae ?_ (Af _ _ _) | refine Ae ?_ (Ai _ _) | refine Ae ?_ (by assumption)));done))))
     | (refine Va (by rfl) 197 (.tmp 6) (.tmp 7) _ _ (by rfl) (.agg #[.bool sg,.slice A n c]) v2 (by rfl) (by rfl) EH.out _ (HH1.out _ v2 (by (focus ((repeat (first | assumption | exact Al _ _ | exact Ai _ _ | exact Af _ _ _ | refine Ae ?_ (Af _ _ _) | refine Ae ?_ (Ai _ _) | refine Ae ?_ (by assumption)));done))) hv2) ?_;rintro v3 w3 ⟨rfl,hg3⟩;obtain ⟨x0,x1⟩:=HKK.out w3 (by (focus ((repeat (first | assumption | exact Al _ _ | exact Ai _ _ | exact Af _ _ _ | refine Ae ?_ (Af _ _ _) | refine Ae ?_ (Ai _ _) | refine Ae ?_ (by assumption)));done))))
     | (refine X2 (by rfl) 160 (.const (.int .i64 9223372036854775807)) _ (by rfl) (.int .i64 9223372036854775807) (by rfl) EW.out _ (HWI.out 9223372036854775807 (by decide) (by decide) _) ?_;rintro v4 w4 ⟨hv4,hg4⟩;obtain ⟨x0,x1⟩:=HKK.out w4 (by (focus ((repeat (first | assumption | exact Al _ _ | exact Ai _ _ | exact Af _ _ _ | refine Ae ?_ (Af _ _ _) | refine Ae ?_ (Ai _ _) | refine Ae ?_ (by assumption)));done))))
     | (refine X3 (by rfl) 197 (.tmp 11) (.tmp 12) _ _ (by rfl) (.agg #[.bool sg,.slice A n c]) v4 (by rfl) (by rfl) EH.out _ (HH2.out _ v4 (by (focus ((repeat (first | assumption | exact Al _ _ | exact Ai _ _ | exact Af _ _ _ | refine Ae ?_ (Af _ _ _) | refine Ae ?_ (Ai _ _) | refine Ae ?_ (by assumption)));done))) hv4) ?_;rintro v5 w5 ⟨rfl,hg5⟩;obtain ⟨x0,x1⟩:=HKK.out w5 (by (focus ((repeat (first | assumption | exact Al _ _ | exact Ai _ _ | exact Af _ _ _ | refine Ae ?_ (Af _ _ _) | refine Ae ?_ (Ai _ _) | refine Ae ?_ (by assumption)));done))))
     | (fail))
    all_goals
      go_wp2_with fail
      go_ret2
      try rw [if_neg HNO.out,decide_eq_false HNO.out]
      exact ⟨rfl,Ae HGW.out (by (focus ((repeat (first | assumption | exact Al _ _ | exact Ai _ _ | exact Af _ _ _ | refine Ae ?_ (Af _ _ _) | refine Ae ?_ (Ai _ _) | refine Ae ?_ (by assumption)));done)))⟩
  obtain ⟨E2,hE2,hE2'⟩:∃ E:Int,(if z-9223372036854775807=0 then (0:Int) else if z-9223372036854775807<0 then -1 else 1)=E∧decide (0<E)=false:=⟨_,rfl,by rw [decide_eq_false_iff_not];split<;>(try split)<;>omega⟩
  have H2:=Ac hE2
  clear hE2
  have HYES:Hid (-9223372036854775808≤z∧z≤9223372036854775807):=Ac ⟨by omega,by omega⟩
  have HNZ:Hid (n≤4):=Ac (by rw [←HN.out];unfold d16;refine (Bz 65536 (by omega) _ _).2 ?_;omega)
  clear h1 h2
  have HH1:Hid (∀ W v,wa.grownBy W none→NZ W v (-9223372036854775808)→Calls Tryz.prog 197 #[.agg #[.bool sg,.slice A n c],v] W fun e w'=>∃ u,e=.returned u∧(u=.int .i64 E1∧W.grownBy w' none)):=Ac fun W v hW hv=>(Rj W _ v z (-9223372036854775808) (HZ.out.more hW) hv (by rw [HN.out];exact HLX.out) A2x).mono fun e w' h=>⟨_,h.1,by rw [H1.out],h.2⟩
  have HH2:Hid (∀ W v,wa.grownBy W none→NZ W v 9223372036854775807→Calls Tryz.prog 197 #[.agg #[.bool sg,.slice A n c],v] W fun e w'=>∃ u,e=.returned u∧(u=.int .i64 E2∧W.grownBy w' none)):=Ac fun W v hW hv=>(Rj W _ v z 9223372036854775807 (HZ.out.more hW) hv (by rw [HN.out];exact HLX.out) A2w).mono fun e w' h=>⟨_,h.1,by rw [H2.out],h.2⟩
  go_region_law (first
   | (refine Fo (by rfl) 160 (.const (.int .i64 (-9223372036854775808))) _ (by rfl) (.int .i64 (-9223372036854775808)) (by rfl) EW.out _ (HWI.out (-9223372036854775808) (by decide) (by decide) _) ?_;rintro v2 w2 ⟨hv2,hg2⟩;obtain ⟨x0,x1⟩:=HKK.out w2 (by (focus ((repeat (first | assumption | exact Al _ _ | exact Ai _ _ | exact Af _ _ _ | refine Ae ?_ (Af _ _ _) | refine Ae ?_ (Ai _ _) | refine Ae ?_ (by assumption)));done))))
   | (refine Va (by rfl) 197 (.tmp 6) (.tmp 7) _ _ (by rfl) (.agg #[.bool sg,.slice A n c]) v2 (by rfl) (by rfl) EH.out _ (HH1.out _ v2 (by (focus ((repeat (first | assumption | exact Al _ _ | exact Ai _ _ | exact Af _ _ _ | refine Ae ?_ (Af _ _ _) | refine Ae ?_ (Ai _ _) | refine Ae ?_ (by assumption)));done))) hv2) ?_;rintro v3 w3 ⟨rfl,hg3⟩;obtain ⟨x0,x1⟩:=HKK.out w3 (by (focus ((repeat (first | assumption | exact Al _ _ | exact Ai _ _ | exact Af _ _ _ | refine Ae ?_ (Af _ _ _) | refine Ae ?_ (Ai _ _) | refine Ae ?_ (by assumption)));done))))
   | (refine X2 (by rfl) 160 (.const (.int .i64 9223372036854775807)) _ (by rfl) (.int .i64 9223372036854775807) (by rfl) EW.out _ (HWI.out 9223372036854775807 (by decide) (by decide) _) ?_;rintro v4 w4 ⟨hv4,hg4⟩;obtain ⟨x0,x1⟩:=HKK.out w4 (by (focus ((repeat (first | assumption | exact Al _ _ | exact Ai _ _ | exact Af _ _ _ | refine Ae ?_ (Af _ _ _) | refine Ae ?_ (Ai _ _) | refine Ae ?_ (by assumption)));done))))
   | (refine X3 (by rfl) 197 (.tmp 11) (.tmp 12) _ _ (by rfl) (.agg #[.bool sg,.slice A n c]) v4 (by rfl) (by rfl) EH.out _ (HH2.out _ v4 (by (focus ((repeat (first | assumption | exact Al _ _ | exact Ai _ _ | exact Af _ _ _ | refine Ae ?_ (Af _ _ _) | refine Ae ?_ (Ai _ _) | refine Ae ?_ (by assumption)));done))) hv4) ?_;rintro v5 w5 ⟨rfl,hg5⟩;obtain ⟨x0,x1⟩:=HKK.out w5 (by (focus ((repeat (first | assumption | exact Al _ _ | exact Ai _ _ | exact Af _ _ _ | refine Ae ?_ (Af _ _ _) | refine Ae ?_ (Ai _ _) | refine Ae ?_ (by assumption)));done))))
   | (fail))
  all_goals
    have HG5:=Ac (show wa.grownBy w5 none by (focus ((repeat (first | assumption | exact Al _ _ | exact Ai _ _ | exact Af _ _ _ | refine Ae ?_ (Af _ _ _) | refine Ae ?_ (Ai _ _) | refine Ae ?_ (by assumption)));done)))
    obtain ⟨x0,x1⟩:=HKK.out _ HG5.out
    have hn4:=HNZ.out
    clear hE1' hE2' lx
    go_wp2_with fail
    go_loopw [4,5] (fun u i wr=>∃ k:Nat,k≤n∧i=.int .i64 ((k:Int)-1)∧wr=w5∧∃ U:Nat,u=.int .u64 (U:Int)∧U<18446744073709551616∧Hid (U=val 65536 ((d16 z).drop k))) (fun _ i _=>(intOf i+1).toNat)
    case atStart=>exact ⟨n,by omega,by go_num,rfl,0,rfl,by omega,Ac (by rw [List.drop_eq_nil_of_le (by rw [HN.out];omega)];rfl)⟩
    case round =>
      obtain ⟨k,hk,rfl,rfl,U,rfl,hU,hv⟩:=hrel
      by_cases h0:0<k
      · obtain ⟨k,rfl⟩:∃ j,k=j+1:=⟨k-1,by omega⟩
        have hd:=HD.out.more HG5.out
        obtain ⟨b,o,rfl,hc⟩:∃ b o,A=some ⟨b,o,none⟩∧∀ i,i<n→wr.cell? ⟨b,o+i,none⟩=some (.int .i64 (((d16 z)[i]?.getD 0:Nat):Int)):=by
          rcases hd.1 with ⟨e,e'⟩ | ⟨b,o,c',e,_,_,hc⟩
          · injection e with _ e _;omega
          · injection e with e1 e2 e3;exact ⟨b,o,e1,fun i hi=>hc i (by rw [HN.out];exact hi)⟩
        have hck:=hc k (by omega)
        have hlt:((d16 z)[k]?.getD 0)<65536:=hd.2 _ (by rw [List.getElem?_eq_getElem (by rw [HN.out];omega)];exact List.getElem_mem _)
        have hnx:=Hf 65536 (d16 z) k (by rw [HN.out];omega)
        have hle:=A3x (z:=z) k
        have hz:=HYES.out
        have hvo:=hv.out
        have hb2:(d16 z)[k]?.getD 0+65536*U<18446744073709551616:=by omega
        generalize (d16 z)[k]?.getD 0=D at *
        have HNX:Hid (D+65536*U=val 65536 ((d16 z).drop k)):=Ac (by rw [hnx,hvo])
        clear hnx hle hz hvo hc hd hv
        have hk1:(((k+1:Nat):Int)-1)=(k:Int):=by omega
        rw [hk1]
        have e1:IntKind.u64.wrap ((U:Int)*65536)=(U:Int)*65536:=IntWalk.u64_in _ (by omega)
        have e2:IntKind.u64.wrap (D:Int)=(D:Int):=IntWalk.u64_in _ (by omega)
        have e3:IntKind.u64.wrap ((U:Int)*65536+(D:Int))=(U:Int)*65536+(D:Int):=IntWalk.u64_in _ (by omega)
        have e4:IntKind.i64.wrap ((k:Int)-1)=(k:Int)-1:=IntWalk.i64_in _ (by omega)
        have k0:(0:Int)≤(k:Int):=by omega
        have k1:(k:Int)<(n:Int):=by omega
        go_wp2_with fail
        exact ⟨⟨k,by omega,rfl,trivial,D+65536*U,by go_num,by omega,HNX⟩,by simp [intOf]<;>omega⟩
      · obtain rfl:k=0:=by omega
        have hUz:U=z.natAbs:=by have:=hv.out;rw [List.drop_zero] at this;unfold d16 at this;rw [Ck _ (by omega)] at this;exact this
        have hz:=HYES.out
        have hsz:(sg=true↔z<0):=by rw [←HSG.out,decide_eq_true_iff]
        have HZE:=Ac hsz
        clear hv
        cases sg with
        | true =>
          have hz0:z<0:=hsz.1 rfl
          have c1:IntKind.u64.wrap (-(U:Int))=18446744073709551616-(U:Int):=by rw [IntKind.wrap_u64];omega
          have c2:IntKind.u64.wrap (0-(U:Int))=18446744073709551616-(U:Int):=by rw [IntKind.wrap_u64];omega
          have c3:IntKind.i64.wrap (18446744073709551616-(U:Int))=z:=by rw [IntKind.wrap_i64];omega
          clear hUz hz hsz hz0 h0
          go_wp2_with fail
          go_ret2
          try rw [if_pos HYES.out,decide_eq_true HYES.out]
          exact ⟨rfl,Ae HGW.out HG5.out⟩
        | false =>
          have hz0:¬ z<0:=fun h=>by have:=hsz.2 h;cases this
          have c3:IntKind.i64.wrap (U:Int)=z:=by rw [IntKind.wrap_i64];omega
          clear hUz hz hsz hz0 h0
          go_wp2_with fail
          go_ret2
          try rw [if_pos HYES.out,decide_eq_true HYES.out]
          exact ⟨rfl,Ae HGW.out HG5.out⟩
end
section
open Go.RowKit Go.Maps
open Rat
theorem FQ.res {w:World} {v:Value} {q:Rat} (h:FQ w v q):∃ A c A' c',v=.agg #[.bool (decide (q.num<0)),.slice A (d16 q.num).length c,.bool false,.slice A' (d16 (q.den:Int)).length c']∧∀ w' cs s,Blk w s cs→(∀ u∈cs.toList,∀ n,u≠.int .i64 n)→w.grownBy w' (some s)→FQ w' v q:=by
 obtain ⟨A,c,A',c',rfl,a,b⟩:=h
 exact ⟨A,c,A',c',rfl,fun w' cs s h hn hg=>⟨A,c,A',c',rfl,a.keep h hn hg,b.keep h hn hg⟩⟩
theorem NZ.res {w:World} {v:Value} {z:Int} (h:NZ w v z):∃ A c,v=.agg #[.bool (decide (z<0)),.slice A (d16 z).length c]∧∀ w' cs s,Blk w s cs→(∀ u∈cs.toList,∀ n,u≠.int .i64 n)→w.grownBy w' (some s)→NZ w' v z:=by
 obtain ⟨A,c,rfl,a⟩:=h.form
 exact ⟨A,c,rfl,fun w' cs s h hn hg=>⟨_,rfl,a.keep h hn hg⟩⟩
theorem A3o:L16 ((1000000000:Int):Rat) 8:=⟨by show (d16 1000000000).length≤8;decide +kernel,by show (d16 1).length≤8;decide +kernel⟩
set_option maxRecDepth 100000 in
theorem A2b (w:World) (v1:Value) (p:Rat) (ha:FQ w v1 p) (K:Nat) (lp:L16 p K) (h8:8≤K) (hK:K≤500000000000) :
    Calls Tryz.prog 170 #[v1] w fun e w'=>∃ v,e=.returned v∧FQ w' v (p*((1000000000:Int):Rat))∧w.grownBy w' none:=by
  have HT:=Ac fun W u v (a:FQ W u p) (b:FQ W v ((1000000000:Int):Rat))=>R0 W u v p ((1000000000:Int):Rat) a b K lp (A3o.mono h8) hK
  have HO:=Ac fun W=>X4 W 1000000000 (by omega) (by omega)
  obtain ⟨A1,c1,A2,c2,rfl,_,_⟩:=id ha
  have HA:=Ac ha
  clear ha lp h8 hK
  generalize p*((1000000000:Int):Rat)=R at *
  generalize ((1000000000:Int):Rat)=B at *
  generalize decide (p.num<0)=sa at *
  generalize (d16 p.num).length=na at *
  generalize (d16 (p.den:Int)).length=nb at *
  have hB1:=(Blk.new w #[.bool sa,.slice A1 na c1,.bool false,.slice A2 nb c2] 143).more (Af _ (.cells #[.bool false,.slice none 0 0,.bool false,.slice none 0 0] 143) none)
  have hB2:=Blk.new (w.alloc (.cells #[.bool sa,.slice A1 na c1,.bool false,.slice A2 nb c2] 143)) #[.bool false,.slice none 0 0,.bool false,.slice none 0 0] 143
  rw [World.size_alloc] at hB2
  have HGW:=Ac (Ae (Af w (.cells #[.bool sa,.slice A1 na c1,.bool false,.slice A2 nb c2] 143) none) (Af _ (.cells #[.bool false,.slice none 0 0,.bool false,.slice none 0 0] 143) none))
  have HA:=Ac (HA.out.more HGW.out)
  have HB3:=Ac hB2
  obtain ⟨x0,x1,x2,x3,_⟩:=hB1.four
  clear hB1 hB2
  go_enter Tryz.func170,Tryz.ntmps170
  go_wp2_with fail
  generalize (w.alloc (.cells #[.bool sa,.slice A1 na c1,.bool false,.slice A2 nb c2] 143)).alloc (.cells #[.bool false,.slice none 0 0,.bool false,.slice none 0 0] 143)=wa at *
  generalize hs:w.heap.size=s at *
  have HS:=Ac hs
  clear hs
  have HKK:=Ac (fun W (h:wa.grownBy W none)=>(⟨Aj h x0 (by simp),Aj h x1 (by simp),Aj h x2 (by simp),Aj h x3 (by simp)⟩:W.cell? ⟨s,0,none⟩=some (.bool sa)∧W.cell? ⟨s,1,none⟩=some (.slice A1 na c1)∧W.cell? ⟨s,2,none⟩=some (.bool false)∧W.cell? ⟨s,3,none⟩=some (.slice A2 nb c2)))
  have ne1:s≠s+1:=by omega
  have ne2:s+1≠s:=by omega
  go_region_held3 (fun W=>W.cell? ⟨s,0,none⟩=some (.bool sa)∧W.cell? ⟨s,1,none⟩=some (.slice A1 na c1)∧W.cell? ⟨s,2,none⟩=some (.bool false)∧W.cell? ⟨s,3,none⟩=some (.slice A2 nb c2)) (first | go_keep | exact HKK.out _ (by (focus ((repeat (first | assumption | exact Al _ _ | exact Ai _ _ | exact Af _ _ _ | refine Ae ?_ (Af _ _ _) | refine Ae ?_ (Ai _ _) | refine Ae ?_ (by assumption)));done))))
   (first
   | (go_at_call 113;refine (HO.out _).mono ?_;rintro e w2 ⟨v2,rfl,hv2,hg2⟩)
   | (go_at_call 119;refine (HT.out _ _ _ (HA.out.more (by (focus ((repeat (first | assumption | exact Al _ _ | exact Ai _ _ | exact Af _ _ _ | refine Ae ?_ (Af _ _ _) | refine Ae ?_ (Ai _ _) | refine Ae ?_ (by assumption)));done)))) (hv2.more (by (focus ((repeat (first | assumption | exact Al _ _ | exact Ai _ _ | exact Af _ _ _ | refine Ae ?_ (Af _ _ _) | refine Ae ?_ (Ai _ _) | refine Ae ?_ (by assumption)));done))))).mono ?_;rintro e w4 ⟨v4,rfl,hv4,hg4⟩;obtain ⟨A5,c5,A6,c6,rfl,hkk⟩:=hv4.res;have HB4:=Ac (HB3.out.more (show wa.grownBy w4 none by (focus ((repeat (first | assumption | exact Al _ _ | exact Ai _ _ | exact Af _ _ _ | refine Ae ?_ (Af _ _ _) | refine Ae ?_ (Ai _ _) | refine Ae ?_ (by assumption)));done))));obtain ⟨z0,z1,z2,z3,f0,f1,f2,f3⟩:=HB4.out.four))
  all_goals
    generalize decide (R.num<0)=sr at *
    generalize (d16 R.num).length=nr at *
    generalize (d16 (R.den:Int)).length=nt at *
    go_wp2_with fail
    try simp only [Exit.inBlock,Exit.then]
    obtain ⟨w5,hw5⟩:∃ W,W=((((w4.setCell ⟨s+1,0,none⟩ (.bool sr)).setCell ⟨s+1,1,none⟩ (.slice A5 nr c5)).setCell ⟨s+1,2,none⟩ (.bool false)).setCell ⟨s+1,3,none⟩ (.slice A6 nt c6)):=⟨_,rfl⟩
    rw [←hw5]
    have hB5:Blk w5 (s+1) #[.bool sr,.slice A5 nr c5,.bool false,.slice A6 nt c6]:=by rw [hw5];exact (((HB4.out.set 0 _).set 1 _).set 2 _).set 3 _
    have hG5:w4.grownBy w5 (some (s+1)):=by rw [hw5];exact Jl _ _ _ _ _ _
    clear z0 z1 z2 z3 f0 f1 f2 f3 hw5
    obtain ⟨z0,z1,z2,z3,_⟩:=hB5.four
    refine bodyPost_ret (v:=.agg #[.bool sr,.slice A5 nr c5,.bool false,.slice A6 nt c6]) (by simp [results,Tryz.results170,go_sem,z0,z1,z2,z3]) rfl ⟨_,rfl,hkk _ _ _ HB4.out (by simp) hG5,Aw (Ae HGW.out (show wa.grownBy w4 none by (focus ((repeat (first | assumption | exact Al _ _ | exact Ai _ _ | exact Af _ _ _ | refine Ae ?_ (Af _ _ _) | refine Ae ?_ (Ai _ _) | refine Ae ?_ (by assumption)));done)))) hG5 (by have:=HS.out;omega)⟩
end
end Go.Proofs.YtckbiimikeiejaaGreatDoor
