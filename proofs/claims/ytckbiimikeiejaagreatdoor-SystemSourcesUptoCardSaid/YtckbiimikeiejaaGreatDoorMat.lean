/- RefY. -/
import Derived.Test.YtckbiimikeiejaaGreatDoorMas
import Derived.Deep.RegionLaw
set_option linter.unusedVariables false
set_option linter.unusedSimpArgs false
set_option maxHeartbeats 40000000
namespace Go.Proofs.YtckbiimikeiejaaGreatDoor
section
open Go.RowKit Go.Maps
open Rat
set_option maxRecDepth 100000 in
theorem Df (w:World) (m e:Int) (hm1:-9223372036854775808≤m) (hm2:m≤9223372036854775807) (he1:-9223372036854775808≤e) (he2:e≤9223372036854775807) :
  Calls Tryz.prog 92 #[.agg #[.int .i64 m,.int .i64 e]] w fun o w'=>o=.returned (.bool (decide (NumOK m e)))∧w.grownBy w' none:=by
 have gw:=Af w (.cells #[.int .i64 m,.int .i64 e] 25) none
 have hB:=Blk.new w #[.int .i64 m,.int .i64 e] 25
 obtain ⟨b0,b1,_⟩:=hB.two
 clear hB
 by_cases h0:m=0
 ·subst h0
  have hr:decide (NumOK 0 e)=decide (e=0):=by rw [decide_eq_decide];unfold NumOK;omega
  have HR:=Ac hr
  clear hr
  go_enter Tryz.func92,Tryz.ntmps92
  go_wp2
  go_ret
  rw [HR.out]
  exact ⟨Ao (by by_cases he:e=0<;>simp [he]),gw⟩
 ·have t0:(m==0)=false:=by rw [beq_eq_false_iff_ne];exact h0
  have hr:decide (NumOK m e)=(decide (-999999999≤m)&&decide (m≤999999999)&&decide (m.tmod 10≠0)&&decide (-18≤e)&&decide (e≤9)):=by
   rw [Bool.eq_iff_iff];simp [NumOK,h0,and_assoc]
  have HR:=Ac hr
  by_cases hr0:m.tmod 10=0
  ·have HF:Hid (decide (NumOK m e)=false):=Ac (by rw [hr];simp [hr0])
   have t1:(m.tmod 10==0)=true:=by rw [hr0];rfl
   clear h0 hr hr0
   go_enter Tryz.func92,Tryz.ntmps92
   go_wp2
   go_ret
   exact ⟨by rw [HF.out];rfl,gw⟩
  ·have t1:(m.tmod 10==0)=false:=by rw [beq_eq_false_iff_ne];exact hr0
   have HR:Hid (decide (NumOK m e)=(decide (-999999999≤m)&&decide (m≤999999999)&&decide (-18≤e)&&decide (e≤9))):=Ac (by rw [hr];simp [hr0])
   clear h0 hr hr0
   go_enter Tryz.func92,Tryz.ntmps92
   go_wp2
   all_goals
    go_ret
    refine ⟨?_,gw⟩
    rw [HR.out]
    refine Ao ?_
    rw [Bool.eq_iff_iff]
    simp
    try omega
theorem Lt {j:Nat} (hj:j≤18):(d16 ((10:Int) ^ j)).length≤4:=by
 unfold d16
 refine (Bz 65536 (by omega) _ _).2 ?_
 rw [Int.natAbs_pow]
 have:=O8 hj
 have h:(Int.natAbs 10) ^ j=10 ^ j:=rfl
 rw [h]
 omega
theorem Wu:(d16 10).length≤1099511627776:=by decide +kernel
set_option maxRecDepth 100000 in
theorem Pz (w:World) (k:Nat) (hk:k≤18) :
  Calls Tryz.prog 193 #[.int .i64 (k:Int)] w fun e w'=>∃ nv,e=.returned nv∧NZ w' nv ((10:Int) ^ k)∧w.grownBy w' none:=by
 have HB:=Ac (Blk.new w #[.bool false,.slice none 0 0] 139)
 have HGW:=Ac (Af w (.cells #[.bool false,.slice none 0 0] 139) none)
 go_enter Tryz.func193,Tryz.ntmps193
 go_wp2_with fail
 generalize w.alloc (.cells #[.bool false,.slice none 0 0] 139)=wa at *
 generalize hs:w.heap.size=s at *
 have HS:=Ac hs
 clear hs
 refine (F6 wa 1 (by omega)).mono ?_
 rintro e w1 ⟨v1,rfl,hv1,hg1⟩
 obtain ⟨A1,c1,rfl,hd1⟩:=NZ.form (z:=1) hv1
 have ga:=Af w1 (.cells #[.bool false,.slice A1 (d16 1).length c1] 139) none
 have HTB:Hid (NB (w1.alloc (.cells #[.bool false,.slice A1 (d16 1).length c1] 139)) w1.heap.size 1):=Ac ⟨A1,c1,Blk.new w1 _ _,hd1.more ga⟩
 have HNE:Hid (s<w1.heap.size):=Ac (by have:=HB.out.lt;have:=hg1.size;omega)
 have HB:=Ac (HB.out.more (Ae hg1 ga))
 have HGW:=Ac (Ae HGW.out (Ae hg1 ga))
 clear hv1 hd1 ga hg1
 go_wp2_with fail
 generalize w1.alloc (.cells #[.bool false,.slice A1 (d16 1).length c1] 139)=w2 at *
 generalize w1.heap.size=tb at *
 go_loopw [4] (fun i wr=>∃ j:Nat,i=.int .i64 (j:Int)∧Hid (j≤k∧w2.grownBy wr (some tb)∧NB wr tb ((10:Int) ^ j))) (fun i _=>(k-intOf i).toNat)
 case atStart=>exact ⟨0,rfl,Ac ⟨Nat.zero_le _,Al _ _,HTB.out⟩⟩
 case round =>
  obtain ⟨j,rfl,hst⟩:=hrel
  obtain ⟨hj,hg,hnb⟩:=hst.out
  obtain ⟨A,c,hb,hd⟩:=hnb
  have HG:=Ac hg
  have HBT:=Ac hb
  have HD:=Ac hd
  have HZ:=Ac (HB.out.other hg (by have:=HNE.out;omega))
  obtain ⟨x0,x1,fx0,fx1⟩:=hb.two
  clear hst hg hb hd
  by_cases hjk:j<k
  ·as_aux_lemma =>
    have hp:=O8 (k:=j) (by omega)
    generalize hP:(10:Int) ^ j=P at *
    have HPP:Hid ((10:Int) ^ (j+1)=P*10):=Ac (by rw [←hP,Int.pow_succ])
    have HLP:Hid ((d16 P).length≤4):=Ac (by rw [←hP];exact Lt (by omega))
    clear hP
    generalize hn:(d16 P).length=n at *
    have HN:=Ac hn
    clear hn hp
    generalize hsg:decide (P<0)=sg at *
    have HSG:=Ac hsg
    clear hsg
    have HNP:Hid (NZ wr (.agg #[.bool sg,.slice A n c]) P):=Ac (by rw [←HSG.out,←HN.out];exact ⟨_,rfl,by rw [HN.out];exact HD.out⟩)
    have HTM:Hid (∀ W v1 v2,wr.grownBy W none→NZ W v1 P→NZ W v2 10→Calls Tryz.prog 146 #[v1,v2] W fun e w'=>∃ v,e=.returned v∧(∃ A c,v=.agg #[.bool (decide (P*10<0)),.slice A (d16 (P*10)).length c]∧D16 w' (.slice A (d16 (P*10)).length c) (d16 (P*10))∧wr.grownBy w' none)):=Ac (fun W v1 v2 hW a b=>(Eg W v1 v2 P 10 a b (by have:=HLP.out;have:=HN.out;omega) Wu).mono fun e w' hh=>by
     obtain ⟨v,rfl,h1,h2⟩:=hh
     obtain ⟨A,c,rfl,hd⟩:=h1.form
     exact ⟨_,rfl,A,c,rfl,hd,Ae hW h2⟩)
    have HSM:Hid (∀ W,wr.grownBy W none→Calls Tryz.prog 192 #[.int .i64 10] W fun e w'=>∃ v,e=.returned v∧(NZ w' v 10∧wr.grownBy w' none∧W.grownBy w' none)):=Ac (fun W hW=>(F6 W 10 (by omega)).mono fun e w' hh=>by
     obtain ⟨v,rfl,h1,h2⟩:=hh
     exact ⟨v,rfl,h1,Ae hW h2,h2⟩)
    have E1:=Ac (show ∀ args w,(callFunc 192 args).run Tryz.prog w=.ok (.enter 192 args) w from enters_of Tryz.func192 (by kernel_rfl) rfl)
    have E2:=Ac (show ∀ args w,(callFunc 146 args).run Tryz.prog w=.ok (.enter 146 args) w from enters_of Tryz.func146 (by kernel_rfl) rfl)
    have e1:IntKind.i64.wrap ((j:Int)+1)=(j:Int)+1:=IntWalk.i64_in _ (by omega)
    go_upto_region 5 with (fail)
    have hstop:True:=trivial
    ·go_region_law (first
      | (refine Fo (by rfl) 192 (.const (.int .i64 10)) _ (by rfl) (.int .i64 10) (by rfl) E1.out _ (HSM.out _ (by (focus ((repeat (first | assumption | exact Al _ _ | exact Ai _ _ | exact Af _ _ _ | refine Ae ?_ (Af _ _ _) | refine Ae ?_ (Ai _ _) | refine Ae ?_ (by assumption)));done)))) ?_;rintro v5 w5 ⟨hv5,hg5,hk5⟩;obtain ⟨x0,x1,fx0,fx1⟩:=(HBT.out.more hg5).two)
      | (refine Va (by rfl) 146 (.tmp 11) (.tmp 12) _ _ (by rfl) (.agg #[.bool sg,.slice A n c]) v5 (by rfl) (by rfl) E2.out _ (HTM.out _ _ v5 (by (focus ((repeat (first | assumption | exact Al _ _ | exact Ai _ _ | exact Af _ _ _ | refine Ae ?_ (Af _ _ _) | refine Ae ?_ (Ai _ _) | refine Ae ?_ (by assumption)));done))) (HNP.out.more hg5) hv5) ?_;rintro v6 w6 ⟨A6,c6,rfl,hd6,hg6⟩;obtain ⟨x0,x1,fx0,fx1⟩:=(HBT.out.more hg6).two)
      | (fail))
     all_goals
      go_wp2_with fail
      have hb6:=HBT.out.more hg6
      have hg7:w6.grownBy ((w6.setCell ⟨tb,0,none⟩ (.bool (decide (P*10<0)))).setCell ⟨tb,1,none⟩ (.slice A6 (d16 (P*10)).length c6)) (some tb):=Ae (Au _ _ _ _) (Au _ _ _ _)
      exact ⟨⟨j+1,Bl (by omega),Ac ⟨by omega,Ae HG.out (Ae (C0 hg6) hg7),by rw [HPP.out];exact ⟨A6,c6,(hb6.set 0 _).set 1 _,hd6.keep hb6 (by simp) hg7⟩⟩⟩,by simp [intOf];omega⟩
  ·as_aux_lemma =>
    have hjk':j=k:=by omega
    subst hjk'
    obtain ⟨z0,z1,fz0,fz1⟩:=HZ.out.two
    generalize hP:(10:Int) ^ j=P at *
    have HPP:=Ac hP
    clear hP
    go_wp2_with fail
    try simp only [Exit.inBlock,Exit.then]
    obtain ⟨w4,hw4,hB4,hG4⟩:∃ w4,w4=((wr.setCell ⟨s,0,none⟩ (.bool (decide (P<0)))).setCell ⟨s,1,none⟩ (.slice A (d16 P).length c))∧Blk w4 s #[.bool (decide (P<0)),.slice A (d16 P).length c]∧wr.grownBy w4 (some s):=⟨_,rfl,(HZ.out.set 0 _).set 1 _,Ae (Au _ _ _ _) (Au _ _ _ _)⟩
    rw [←hw4]
    clear z0 z1 fz0 fz1 hw4
    obtain ⟨z0,z1,_⟩:=hB4.two
    refine bodyPost_ret (v:=.agg #[.bool (decide (P<0)),.slice A (d16 P).length c]) (by simp [results,Tryz.results193,go_sem,z0,z1]) rfl ⟨_,rfl,by rw [HPP.out];exact ⟨_,rfl,HD.out.keep HZ.out (by simp) hG4⟩,Aw (Aw HGW.out HG.out (by have:=HNE.out;have:=HS.out;omega)) hG4 (by have:=HS.out;omega)⟩
theorem FQ.keep {w w':World} {v:Value} {q:Rat} {b:Nat} {cs:Array Value} (h:FQ w v q) (hz:Blk w b cs) (hn:∀ u∈cs.toList,∀ n,u≠.int .i64 n) (hg:w.grownBy w' (some b)):FQ w' v q:=by
 obtain ⟨A,c,A',c',rfl,h1,h2⟩:=h
 exact ⟨A,c,A',c',rfl,h1.keep hz hn hg,h2.keep hz hn hg⟩
theorem Zh {m e:Int} (h:¬ e<0):numQ m e=((m*10 ^ e.natAbs:Int):Rat):=by
 unfold numQ
 rw [if_neg h,Int.mul_comm]
 exact Rat.num_divInt_den ((m*10 ^ e.natAbs:Int):Rat)
set_option maxRecDepth 100000 in
theorem N7 (w:World) (m e:Int) (hN:NumOK m e) :
    Calls Tryz.prog 120 #[.agg #[.int .i64 m,.int .i64 e]] w fun o w'=>∃ v,o=.returned v∧FQ w' v (numQ m e)∧w.grownBy w' none:=by
  have hb:=hN.bounds
  have HW:=Ac (fun W=>Rm W m (by omega) (by omega))
  have HLM:Hid ((d16 m).length≤4):=Ac (by unfold d16;refine (Bz 65536 (by omega) _ _).2 ?_;omega)
  have HLP:Hid ((d16 ((10:Int) ^ e.natAbs)).length≤4):=Ac (Lt (by omega))
  have HP0:Hid ((10:Int) ^ e.natAbs≠0):=Ac (Int.pow_ne_zero (by omega))
  have HPW:=Ac (fun W=>Pz W e.natAbs (by omega))
  have HQ:Hid (∃ Q,numQ m e=Q):=Ac ⟨_,rfl⟩
  obtain ⟨Q,hQ⟩:=HQ.out
  rw [hQ]
  have HQ:=Ac hQ
  clear hN hQ
  obtain ⟨b1,b2,b3,b4⟩:=hb
  have hB1:=(Blk.new w #[.int .i64 m,.int .i64 e] 25).more (Af _ (.cells #[.bool false,.slice none 0 0,.bool false,.slice none 0 0] 143) none)
  have hB2:=Blk.new (w.alloc (.cells #[.int .i64 m,.int .i64 e] 25)) #[.bool false,.slice none 0 0,.bool false,.slice none 0 0] 143
  rw [World.size_alloc] at hB2
  have HGW:=Ac (Ae (Af w (.cells #[.int .i64 m,.int .i64 e] 25) none) (Af _ (.cells #[.bool false,.slice none 0 0,.bool false,.slice none 0 0] 143) none))
  obtain ⟨x0,x1,_⟩:=hB1.two
  have HB1:=Ac hB1
  have HB2:=Ac hB2
  clear hB1 hB2
  go_enter Tryz.func120,Tryz.ntmps120
  go_wp2_with fail
  generalize (w.alloc (.cells #[.int .i64 m,.int .i64 e] 25)).alloc (.cells #[.bool false,.slice none 0 0,.bool false,.slice none 0 0] 143)=wa at *
  generalize hs:w.heap.size=s at *
  have HS:=Ac hs
  clear hs
  refine (HW.out wa).mono ?_
  rintro o w1 ⟨v1,rfl,hv1,hg1⟩
  obtain ⟨A1,c1,rfl,hd1⟩:=hv1.form
  have ga:=Af w1 (.cells #[.bool (decide (m<0)),.slice A1 (d16 m).length c1] 139) none
  have HM:Hid (NZ (w1.alloc (.cells #[.bool (decide (m<0)),.slice A1 (d16 m).length c1] 139)) (.agg #[.bool (decide (m<0)),.slice A1 (d16 m).length c1]) m):=Ac ⟨_,rfl,hd1.more ga⟩
  have HTB:=Ac (Blk.new w1 #[.bool (decide (m<0)),.slice A1 (d16 m).length c1] 139)
  have HNE:Hid (s+1<w1.heap.size):=Ac (by have:=HB2.out.lt;have:=hg1.size;omega)
  have HB1:=Ac (HB1.out.more (Ae hg1 ga))
  have HB2:=Ac (HB2.out.more (Ae hg1 ga))
  have HGW:=Ac (Ae HGW.out (Ae hg1 ga))
  generalize hn1:(d16 m).length=n1 at *
  have HN1:=Ac hn1
  clear hv1 hd1 ga hg1 x0 x1 hn1
  generalize decide (m<0)=sm at *
  obtain ⟨x0,x1,_⟩:=HB1.out.two
  obtain ⟨t0,t1,_⟩:=HTB.out.two
  by_cases he:e<0
  · as_aux_lemma =>
      have hng:-e=((e.natAbs:Nat):Int):=by omega
      rw [←hng] at HPW
      have hLW:∀ W v1 v2,NZ W v1 m→NZ W v2 ((10:Int) ^ e.natAbs)→Calls Tryz.prog 96 #[v1,v2] W fun e w'=>∃ v,e=.returned v∧FQ w' v Q∧W.grownBy w' none:=fun W v1 v2 a b=>by
        have h:=Ow W v1 v2 m ((10:Int) ^ e.natAbs) a b HP0.out (by have:=HLM.out;have:=HN1.out;omega) (by have:=HLP.out;omega)
        rw [show m /. ((10:Int) ^ e.natAbs)=Q by rw [←HQ.out];unfold numQ;rw [if_pos he]] at h
        exact h
      have HLW:=Ac hLW
      have ew:IntKind.i64.wrap (-e) = -e:=IntWalk.i64_in _ (by omega)
      clear hng hLW HW HLP HP0 HQ HLM
      go_upto_region 3 with (fail)
      generalize w1.alloc (.cells #[.bool sm,.slice A1 n1 c1] 139)=w2 at *
      generalize w1.heap.size=tb at *
      generalize (10:Int) ^ e.natAbs=P at *
      have HKK:=Ac (fun W (h:w2.grownBy W none)=>(⟨Aj h x1 (by simp),Aj h t0 (by simp),Aj h t1 (by simp)⟩:W.cell? ⟨s,1,none⟩=some (.int .i64 e)∧W.cell? ⟨tb,0,none⟩=some (.bool sm)∧W.cell? ⟨tb,1,none⟩=some (.slice A1 n1 c1)))
      have ne1:s≠s+1:=by omega
      have ne2:tb≠s+1:=by have:=HNE.out;omega
      have ne3:s+1≠s:=by omega
      have ne4:s+1≠tb:=by have:=HNE.out;omega
      go_region_held3 (fun W=>W.cell? ⟨s,1,none⟩=some (.int .i64 e)∧W.cell? ⟨tb,0,none⟩=some (.bool sm)∧W.cell? ⟨tb,1,none⟩=some (.slice A1 n1 c1)) (first | go_keep | exact HKK.out _ (by (focus ((repeat (first | assumption | exact Al _ _ | exact Ai _ _ | exact Af _ _ _ | refine Ae ?_ (Af _ _ _) | refine Ae ?_ (Ai _ _) | refine Ae ?_ (by assumption)));done))))
       (first
       | (go_at_call 193;refine (HPW.out _).mono ?_;rintro o w3 ⟨v3,rfl,hv3,hg3⟩)
       | (go_at_call 96;refine (HLW.out _ _ _ (HM.out.more (by (focus ((repeat (first | assumption | exact Al _ _ | exact Ai _ _ | exact Af _ _ _ | refine Ae ?_ (Af _ _ _) | refine Ae ?_ (Ai _ _) | refine Ae ?_ (by assumption)));done)))) (hv3.more (by (focus ((repeat (first | assumption | exact Al _ _ | exact Ai _ _ | exact Af _ _ _ | refine Ae ?_ (Af _ _ _) | refine Ae ?_ (Ai _ _) | refine Ae ?_ (by assumption)));done))))).mono ?_;rintro o w4 ⟨v4,rfl,hv4,hg4⟩;have HG4:=Ac (show w2.grownBy w4 none by (focus ((repeat (first | assumption | exact Al _ _ | exact Ai _ _ | exact Af _ _ _ | refine Ae ?_ (Af _ _ _) | refine Ae ?_ (Ai _ _) | refine Ae ?_ (by assumption)));done)));obtain ⟨A5,c5,A6,c6,rfl,_,_⟩:=id hv4;have HB4:=Ac (HB2.out.more HG4.out);have HV4:=Ac hv4;clear hv4;generalize decide (Q.num<0)=sr at *;generalize (d16 Q.num).length=nr at *;generalize (d16 (Q.den:Int)).length=nt at *;obtain ⟨z0,z1,z2,z3,f0,f1,f2,f3⟩:=HB4.out.four))
      all_goals
        go_wp2_with fail
        try simp only [Exit.inBlock,Exit.then]
        obtain ⟨w5,hw5⟩:∃ W,W=((((w4.setCell ⟨s+1,0,none⟩ (.bool sr)).setCell ⟨s+1,1,none⟩ (.slice A5 nr c5)).setCell ⟨s+1,2,none⟩ (.bool false)).setCell ⟨s+1,3,none⟩ (.slice A6 nt c6)):=⟨_,rfl⟩
        rw [←hw5]
        have hB5:Blk w5 (s+1) #[.bool sr,.slice A5 nr c5,.bool false,.slice A6 nt c6]:=by rw [hw5];exact (((HB4.out.set 0 _).set 1 _).set 2 _).set 3 _
        have hG5:w4.grownBy w5 (some (s+1)):=by rw [hw5];exact Jl _ _ _ _ _ _
        clear z0 z1 z2 z3 f0 f1 f2 f3 hw5
        obtain ⟨z0,z1,z2,z3,_⟩:=hB5.four
        refine bodyPost_ret (v:=.agg #[.bool sr,.slice A5 nr c5,.bool false,.slice A6 nt c6]) (by simp [results,Tryz.results120,go_sem,z0,z1,z2,z3]) rfl ⟨_,rfl,?_,Aw (Ae HGW.out HG4.out) hG5 (by have:=HS.out;omega)⟩
      exact HV4.out.keep HB4.out (by simp) hG5
  · as_aux_lemma =>
      have hng:e=((e.natAbs:Nat):Int):=by omega
      have HPW:Hid (∀ W,Calls Tryz.prog 193 #[.int .i64 e] W fun e' w'=>∃ nv,e'=.returned nv∧NZ w' nv ((10:Int) ^ e.natAbs)∧W.grownBy w' none):=Ac (fun W=>by have h:=HPW.out W;rw [←hng] at h;exact h)
      have hTM:∀ W v1 v2,NZ W v1 m→NZ W v2 ((10:Int) ^ e.natAbs)→Calls Tryz.prog 146 #[v1,v2] W fun e' w'=>∃ v,e'=.returned v∧NZ w' v (m*(10:Int) ^ e.natAbs)∧W.grownBy w' none:=fun W v1 v2 a b=>Eg W v1 v2 m ((10:Int) ^ e.natAbs) a b (by have:=HLM.out;have:=HN1.out;omega) (by have:=HLP.out;omega)
      have HTM:=Ac hTM
      have hQ:=HQ.out
      rw [Zh he] at hQ
      have HFQ:Hid (∀ w A c A' c',D16 w (.slice A (d16 (m*(10:Int) ^ e.natAbs)).length c) (d16 (m*(10:Int) ^ e.natAbs))→D16 w (.slice A' (d16 1).length c') (d16 1)→FQ w (.agg #[.bool (decide (m*(10:Int) ^ e.natAbs<0)),.slice A (d16 (m*(10:Int) ^ e.natAbs)).length c,.bool false,.slice A' (d16 1).length c']) Q):=Ac fun w A c A' c' a b=>by rw [←hQ];exact ⟨A,c,A',c',rfl,a,b⟩
      clear hng hTM HW HLP HP0 HQ HLM hQ
      go_upto_region 4 with (fail)
      generalize w1.alloc (.cells #[.bool sm,.slice A1 n1 c1] 139)=w2 at *
      generalize w1.heap.size=tb at *
      generalize (10:Int) ^ e.natAbs=P at *
      generalize m*P=Z at *
      generalize hnz:(d16 Z).length=nr at *
      have HNZ:=Ac hnz
      clear hnz
      generalize hsr:decide (Z<0)=sr at *
      have HSR:=Ac hsr
      clear hsr
      generalize hnt:(d16 1).length=nt at *
      have HNT:=Ac hnt
      clear hnt
      have HKK:=Ac (fun W (h:w2.grownBy W none)=>(⟨Aj h x1 (by simp),Aj h t0 (by simp),Aj h t1 (by simp)⟩:W.cell? ⟨s,1,none⟩=some (.int .i64 e)∧W.cell? ⟨tb,0,none⟩=some (.bool sm)∧W.cell? ⟨tb,1,none⟩=some (.slice A1 n1 c1)))
      have ne1:s≠s+1:=by omega
      have ne2:tb≠s+1:=by have:=HNE.out;omega
      have ne3:s+1≠s:=by omega
      have ne4:s+1≠tb:=by have:=HNE.out;omega
      go_region_held3 (fun W=>W.cell? ⟨s,1,none⟩=some (.int .i64 e)∧W.cell? ⟨tb,0,none⟩=some (.bool sm)∧W.cell? ⟨tb,1,none⟩=some (.slice A1 n1 c1)) (first | go_keep | exact HKK.out _ (by (focus ((repeat (first | assumption | exact Al _ _ | exact Ai _ _ | exact Af _ _ _ | refine Ae ?_ (Af _ _ _) | refine Ae ?_ (Ai _ _) | refine Ae ?_ (by assumption)));done))))
       (first
       | (go_at_call 193;refine (HPW.out _).mono ?_;rintro o w4 ⟨v3,rfl,hv3,hg3⟩)
       | (go_at_call 146;refine (HTM.out _ _ _ (HM.out.more (by (focus ((repeat (first | assumption | exact Al _ _ | exact Ai _ _ | exact Af _ _ _ | refine Ae ?_ (Af _ _ _) | refine Ae ?_ (Ai _ _) | refine Ae ?_ (by assumption)));done)))) (hv3.more (by (focus ((repeat (first | assumption | exact Al _ _ | exact Ai _ _ | exact Af _ _ _ | refine Ae ?_ (Af _ _ _) | refine Ae ?_ (Ai _ _) | refine Ae ?_ (by assumption)));done))))).mono ?_;rintro o w4 ⟨v5,rfl,hv5,hg5⟩;obtain ⟨A5,c5,rfl,hd5⟩:=hv5.form;rw [HNZ.out] at hd5;rw [HNZ.out,HSR.out];have HG4:=Ac (show w2.grownBy w4 none by (focus ((repeat (first | assumption | exact Al _ _ | exact Ai _ _ | exact Af _ _ _ | refine Ae ?_ (Af _ _ _) | refine Ae ?_ (Ai _ _) | refine Ae ?_ (by assumption)));done)));have HB4:=Ac (HB2.out.more HG4.out);obtain ⟨z0,z1,z2,z3,f0,f1,f2,f3⟩:=HB4.out.four)
       | (go_at_call 192;refine (F6 _ 1 (by omega)).mono ?_;rintro o w4 ⟨v6,rfl,hv6,hg6⟩;obtain ⟨A6,c6,rfl,hd6⟩:=NZ.form (z:=1) hv6;rw [HNT.out] at hd6;rw [HNT.out];have HG4:=Ac (show w2.grownBy w4 none by (focus ((repeat (first | assumption | exact Al _ _ | exact Ai _ _ | exact Af _ _ _ | refine Ae ?_ (Af _ _ _) | refine Ae ?_ (Ai _ _) | refine Ae ?_ (by assumption)));done)));have HB4:=Ac (HB2.out.more HG4.out);obtain ⟨z0,z1,z2,z3,f0,f1,f2,f3⟩:=HB4.out.four))
      all_goals
        go_wp2_with fail
        try simp only [Exit.inBlock,Exit.then]
        obtain ⟨w5,hw5⟩:∃ W,W=((((w4.setCell ⟨s+1,0,none⟩ (.bool sr)).setCell ⟨s+1,1,none⟩ (.slice A5 nr c5)).setCell ⟨s+1,2,none⟩ (.bool false)).setCell ⟨s+1,3,none⟩ (.slice A6 nt c6)):=⟨_,rfl⟩
        rw [←hw5]
        have hB5:Blk w5 (s+1) #[.bool sr,.slice A5 nr c5,.bool false,.slice A6 nt c6]:=by rw [hw5];exact (((HB4.out.set 0 _).set 1 _).set 2 _).set 3 _
        have hG5:w4.grownBy w5 (some (s+1)):=by rw [hw5];exact Jl _ _ _ _ _ _
        clear z0 z1 z2 z3 f0 f1 f2 f3 hw5
        obtain ⟨z0,z1,z2,z3,_⟩:=hB5.four
        refine bodyPost_ret (v:=.agg #[.bool sr,.slice A5 nr c5,.bool false,.slice A6 nt c6]) (by simp [results,Tryz.results120,go_sem,z0,z1,z2,z3]) rfl ⟨_,rfl,?_,Aw (Ae HGW.out HG4.out) hG5 (by have:=HS.out;omega)⟩
      exact (HFQ.out w4 A5 c5 A6 c6 (hd5.more (by (focus ((repeat (first | assumption | exact Al _ _ | exact Ai _ _ | exact Af _ _ _ | refine Ae ?_ (Af _ _ _) | refine Ae ?_ (Ai _ _) | refine Ae ?_ (by assumption)));done)))) (hd6.more (by (focus ((repeat (first | assumption | exact Al _ _ | exact Ai _ _ | exact Af _ _ _ | refine Ae ?_ (Af _ _ _) | refine Ae ?_ (Ai _ _) | refine Ae ?_ (by assumption)));done))))).keep HB4.out (by simp) hG5
end
end Go.Proofs.YtckbiimikeiejaaGreatDoor
