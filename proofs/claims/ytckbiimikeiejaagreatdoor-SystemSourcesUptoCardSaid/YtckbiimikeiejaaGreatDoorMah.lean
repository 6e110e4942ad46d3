/- NumB NumC. -/
import Derived.Test.YtckbiimikeiejaaGreatDoorMag
set_option linter.unusedVariables false
set_option linter.unusedSimpArgs false
set_option maxHeartbeats 40000000
namespace Go.Proofs.YtckbiimikeiejaaGreatDoor
section
open Go.RowKit
open Rat
def numQ (m e:Int):Rat:=if e<0 then m /. (10 ^ e.natAbs:Int) else ((10 ^ e.natAbs:Int)*m) /. 1
theorem NumOK.bounds {m e:Int} (h:NumOK m e):-999999999≤m∧m≤999999999∧-18≤e∧e≤9:=by
 rcases h with ⟨rfl,rfl⟩ | ⟨_,h1,h2,_,h3,h4⟩
 ·omega
 ·exact ⟨h1,h2,h3,h4⟩
theorem O8 {k:Nat} (hk:k≤18):(10:Nat) ^ k≤1000000000000000000:=by
 have:=Nat.pow_le_pow_right (n:=10) (by omega) hk
 simpa using this
theorem Lu {k:Nat} (hk:k≤18):lim (10 ^ k:Int)≤2:=by
 rw [Ek,Int.natAbs_pow]
 exact Nat.lt_of_le_of_lt (O8 hk) (by decide)
theorem Lb (k:Nat):(10 ^ k:Int)≠0:=Int.pow_ne_zero (by decide)
theorem Ba {m e:Int} (h:NumOK m e):LimQ (numQ m e) 3:=by
 obtain ⟨h1,h2,h3,h4⟩:=h.bounds
 have l1:lim m≤1:=Hv (by omega)
 have l2:lim (10 ^ e.natAbs:Int)≤2:=Lu (by omega)
 unfold numQ
 split
 ·exact LimQ.divInt (Lb _) (by omega) (by omega)
 ·refine LimQ.divInt (by decide) ?_ (by decide)
  have:=C9 (10 ^ e.natAbs:Int) m
  omega
set_option maxRecDepth 100000 in
theorem Jb (w:World) (m e:Int) (h:NumOK m e) :
  Calls Tryz.prog 265 #[.agg #[.int .i64 m,.int .i64 e]] w fun o w'=>∃ b,o=.returned (.pointer (some ⟨b,0,none⟩))∧RatB w' b (numQ m e)∧w.heap.size≤b∧w.grownBy w' none:=by
 obtain ⟨h1,h2,h3,h4⟩:=h.bounds
 have gw:=Af w (.cells #[.int .i64 m,.int .i64 e] 25) none
 have hB:=Blk.new w #[.int .i64 m,.int .i64 e] 25
 have hs1:(w.alloc (.cells #[.int .i64 m,.int .i64 e] 25)).heap.size=w.heap.size+1:=by simp
 obtain ⟨b0,b1,_⟩:=hB.two
 by_cases he:e<0
 ·obtain ⟨k,rfl⟩:∃ k:Nat,e = -(k:Int):=⟨e.natAbs,by omega⟩
  have hk:k≤18:=by omega
  have hq:numQ m (-(k:Int))=m /. (10 ^ k:Int):=by unfold numQ;rw [if_pos he,Int.natAbs_neg,Int.natAbs_natCast]
  have HQ:=Ac hq
  have l2:=Lu hk
  have l1:lim m≤1:=Hv (by omega)
  have hne:=Ac (Lb k)
  clear hq h
  go_enter Tryz.func265,Tryz.ntmps265
  go_wp2_with fail
  generalize w.alloc (.cells #[.int .i64 m,.int .i64 (-(k:Int))] 25)=wa at *
  generalize hs:w.heap.size=s at *
  refine (Pa wa k (by omega)).mono ?_
  rintro o w1 ⟨b1',rfl,hi1,hb1,hg1⟩
  have c0:=Aj hg1 b0 (by simp)
  have c1:=Aj hg1 b1 (by simp)
  go_wp2_with fail
  refine (C3 w1 m (by omega) (by omega)).mono ?_
  rintro o w2 ⟨b2,rfl,hi2,hb2,hg2⟩
  go_wp2_with fail
  refine (I9 w2 b2 0 b1' 0 m _ hi2.at (hi1.more hg2).at (by omega) (by omega) hne.out).mono ?_
  rintro o w3 ⟨b3,rfl,hi3,hb3,hg3⟩
  have s1:=hg1.size
  have s2:=hg2.size
  go_wp2
  go_ret
  rw [←HQ.out] at hi3
  exact ⟨b3,rfl,hi3,by omega,Ae gw (Ae hg1 (Ae hg2 hg3))⟩
 ·obtain ⟨k,rfl⟩:∃ k:Nat,e=(k:Int):=⟨e.natAbs,by omega⟩
  have hk:k≤18:=by omega
  have hq:numQ m (k:Int)=((10 ^ k:Int)*m) /. 1:=by unfold numQ;rw [if_neg he,Int.natAbs_natCast]
  have HQ:=Ac hq
  have l2:=Lu hk
  have l1:lim m≤1:=Hv (by omega)
  have l3:=C9 (10 ^ k:Int) m
  clear hq h
  go_enter Tryz.func265,Tryz.ntmps265
  go_wp2_with fail
  generalize w.alloc (.cells #[.int .i64 m,.int .i64 (k:Int)] 25)=wa at *
  generalize hs:w.heap.size=s at *
  refine (Pa wa k (by omega)).mono ?_
  rintro o w1 ⟨b1',rfl,hi1,hb1,hg1⟩
  have c0:=Aj hg1 b0 (by simp)
  have c1:=Aj hg1 b1 (by simp)
  go_wp2_with fail
  refine (C3 w1 m (by omega) (by omega)).mono ?_
  rintro o w2 ⟨b2,rfl,hi2,hb2,hg2⟩
  have i2:=hi1.more hg2
  go_wp2_with fail
  refine (Ct w2 b1' b1' 0 b2 0 _ _ m i2 i2.at hi2.at (by omega) (by omega)).mono ?_
  rintro o w3 ⟨rfl,hi3,hg3⟩
  have s1:=hg1.size
  have s2:=hg2.size
  have G3:=Aw (Ae gw (Ae hg1 hg2)) hg3 (by omega)
  go_wp2_with fail
  refine (C3 w3 1 (by omega) (by omega)).mono ?_
  rintro o w4 ⟨b4,rfl,hi4,hb4,hg4⟩
  go_wp2_with fail
  refine (I9 w4 b1' 0 b4 0 _ 1 (hi3.more hg4).at hi4.at (by omega) (by decide) (by decide)).mono ?_
  rintro o w5 ⟨b5,rfl,hi5,hb5,hg5⟩
  have s3:=hg3.size
  have s4:=hg4.size
  go_wp2
  go_ret
  rw [←HQ.out] at hi5
  exact ⟨b5,rfl,hi5,by omega,Ae G3 (Ae hg4 hg5)⟩
def RatV (w:World) (v:Value) (q:Rat):Prop:=∃ v1 v2,v=.agg #[.bool (decide (q.num<0)),v1,.bool false,v2]∧Nums w v1 (digs q.num)∧Nums w v2 (digs (q.den:Int))
set_option maxRecDepth 100000 in
theorem Ib (w:World) (m e:Int) (h:NumOK m e) :
  Calls Tryz.prog 235 #[.agg #[.int .i64 m,.int .i64 e]] w fun o w'=>∃ v,o=.returned (.tuple #[v,.int .i64 0])∧RatV w' v (numQ m e)∧w.grownBy w' none:=by
 obtain ⟨h1,h2,h3,h4⟩:=h.bounds
 have gw:=Ae (Af w (.cells #[.int .i64 m,.int .i64 e] 25) none) (Af _ (.cells #[.bool false,.slice none 0 0,.bool false,.slice none 0 0] 94) none)
 have hB:=(Blk.new w #[.int .i64 m,.int .i64 e] 25).more (Af _ (.cells #[.bool false,.slice none 0 0,.bool false,.slice none 0 0] 94) none)
 have hC:=Blk.new (w.alloc (.cells #[.int .i64 m,.int .i64 e] 25)) #[.bool false,.slice none 0 0,.bool false,.slice none 0 0] 94
 rw [World.size_alloc] at hC
 have hsz:((w.alloc (.cells #[.int .i64 m,.int .i64 e] 25)).alloc (.cells #[.bool false,.slice none 0 0,.bool false,.slice none 0 0] 94)).heap.size=w.heap.size+2:=by simp
 have hlq:=Ba h
 have HOK:=Ac h
 have hd:=decide_eq_true h
 have HD:=Ac hd
 obtain ⟨b0,b1,_⟩:=hB.two
 clear h hd hB
 go_enter Tryz.func235,Tryz.ntmps235
 go_wp2_with fail
 generalize (w.alloc (.cells #[.int .i64 m,.int .i64 e] 25)).alloc (.cells #[.bool false,.slice none 0 0,.bool false,.slice none 0 0] 94)=wa at *
 generalize hs:w.heap.size=s at *
 refine (Bd wa m e (by omega) (by omega) (by omega) (by omega)).mono ?_
 rintro o w1 ⟨rfl,hg1⟩
 rw [HD.out]
 have c0:=Aj hg1 b0 (by simp)
 have c1:=Aj hg1 b1 (by simp)
 go_wp2_with fail
 refine (Jb w1 m e HOK.out).mono ?_
 rintro o w2 ⟨b2,rfl,hr2,hb2,hg2⟩
 go_wp2_with fail
 refine (E7 w2 b2 (numQ m e) hr2 (hlq.mono (by omega))).mono ?_
 rintro o w3 ⟨v1,v2,rfl,hn1,hn2,hf1,hf2,hg3⟩
 have G3:=Ae hg1 (Ae hg2 hg3)
 obtain ⟨x0,x1,x2,x3,f0,f1,f2,f3⟩:=(hC.more G3).four
 obtain ⟨A1,m1,c1',rfl⟩:=hn1.ctor
 obtain ⟨A2,m2,c2',rfl⟩:=hn2.ctor
 have s1:=hg1.size
 have s2:=hg2.size
 go_wp2
 try simp only [Exit.inBlock,Exit.then]
 have hg6:w3.grownBy ((((w3.setCell ⟨s+1,0,none⟩ (.bool (decide ((numQ m e).num<0)))).setCell ⟨s+1,1,none⟩ (.slice A1 m1 c1')).setCell ⟨s+1,2,none⟩ (.bool false)).setCell ⟨s+1,3,none⟩ (.slice A2 m2 c2')) (some (s+1)):=Ae (Ae (Ae (Au _ _ _ _) (Au _ _ _ _)) (Au _ _ _ _)) (Au _ _ _ _)
 refine bodyPost_ret (v:=.tuple #[.agg #[.bool (decide ((numQ m e).num<0)),.slice A1 m1 c1',.bool false,.slice A2 m2 c2'],.int .i64 0]) (by simp [results,Tryz.results235,go_sem,x0,x1,x2,x3]) rfl ⟨_,rfl,⟨_,_,rfl,?_,?_⟩,?_⟩
 ·exact hn1.apart hg6 (fun e=>by have:=hf1 _ e;omega)
 ·exact hn2.apart hg6 (fun e=>by have:=hf2 _ e;omega)
 ·exact Aw (Ae gw G3) hg6 (by omega)
end
section
open Go.RowKit
open Rat
def cmpQ (p q:Rat):Int:=if p<q then -1 else if p=q then 0 else 1
set_option maxRecDepth 100000 in
theorem Tx (w:World) (m1 e1 m2 e2:Int) (h1:NumOK m1 e1) (h2:NumOK m2 e2) :
    Calls Tryz.prog 253 #[.agg #[.int .i64 m1,.int .i64 e1],.agg #[.int .i64 m2,.int .i64 e2]] w fun o w'=>o=.returned (.tuple #[.int .i64 (cmpQ (numQ m1 e1) (numQ m2 e2)),.int .i64 0])∧w.grownBy w' none:=by
  have hb1:=h1.bounds
  have hb2:=h2.bounds
  have gw:=Ae (Af w (.cells #[.int .i64 m1,.int .i64 e1] 25) none) (Af _ (.cells #[.int .i64 m2,.int .i64 e2] 25) none)
  have hB1:=(Blk.new w #[.int .i64 m1,.int .i64 e1] 25).more (Af _ (.cells #[.int .i64 m2,.int .i64 e2] 25) none)
  have hB2:=Blk.new (w.alloc (.cells #[.int .i64 m1,.int .i64 e1] 25)) #[.int .i64 m2,.int .i64 e2] 25
  rw [World.size_alloc] at hB2
  have l1:=Ba h1
  have l2:=Ba h2
  have H1:=Ac h1
  have H2:=Ac h2
  have D1:=Ac (decide_eq_true h1)
  have D2:=Ac (decide_eq_true h2)
  obtain ⟨a0,a1,_⟩:=hB1.two
  obtain ⟨b0,b1,_⟩:=hB2.two
  obtain ⟨R,hR⟩:∃ R,cmpQ (numQ m1 e1) (numQ m2 e2)=R:=⟨_,rfl⟩
  have hR':(if numQ m1 e1<numQ m2 e2 then (-1:Int) else if numQ m1 e1=numQ m2 e2 then 0 else 1)=R:=hR
  have HR:=Ac hR'
  rw [hR]
  clear h1 h2 hR hR'
  go_enter Tryz.func253,Tryz.ntmps253
  go_wp2_with fail
  generalize (w.alloc (.cells #[.int .i64 m1,.int .i64 e1] 25)).alloc (.cells #[.int .i64 m2,.int .i64 e2] 25)=wa at *
  generalize hs:w.heap.size=s at *
  refine (Bd wa m1 e1 (by omega) (by omega) (by omega) (by omega)).mono ?_
  rintro o w1 ⟨rfl,hg1⟩
  rw [D1.out]
  have c0:=Aj hg1 b0 (by simp)
  have c1:=Aj hg1 b1 (by simp)
  go_wp2_with fail
  refine (Bd w1 m2 e2 (by omega) (by omega) (by omega) (by omega)).mono ?_
  rintro o w2 ⟨rfl,hg2⟩
  rw [D2.out]
  have g2:=Ae hg1 hg2
  have K:∀ w',w2.grownBy w' none→w'.cell? ⟨s,0,none⟩=some (.int .i64 m1)∧w'.cell? ⟨s,1,none⟩=some (.int .i64 e1)∧w'.cell? ⟨s+1,0,none⟩=some (.int .i64 m2)∧w'.cell? ⟨s+1,1,none⟩=some (.int .i64 e2):=fun w' h=>⟨(hB1.more (Ae g2 h)).cell 0,(hB1.more (Ae g2 h)).cell 1,(hB2.more (Ae g2 h)).cell 0,(hB2.more (Ae g2 h)).cell 1⟩
  obtain ⟨k0,k1,k2,k3⟩:=K w2 (Al _ _)
  have HK:=Ac K
  clear hB1 hB2 a0 a1 b0 b1 c0 c1 K
  go_wp2_with fail
  go_region_held3 (fun w'=>w'.cell? ⟨s,0,none⟩=some (.int .i64 m1)∧w'.cell? ⟨s,1,none⟩=some (.int .i64 e1)∧w'.cell? ⟨s+1,0,none⟩=some (.int .i64 m2)∧w'.cell? ⟨s+1,1,none⟩=some (.int .i64 e2)) ((refine HK.out _ ?_;(focus ((repeat (first | assumption | exact Al _ _ | exact Ai _ _ | exact Af _ _ _ | refine Ae ?_ (Af _ _ _) | refine Ae ?_ (Ai _ _) | refine Ae ?_ (by assumption)));done))))
   (first
   | (go_at_call_of 265 (Value.agg #[.int .i64 m1,.int .i64 e1]);refine (Jb _ m1 e1 H1.out).mono ?_;rintro o w3 ⟨bb2,rfl,hi2,hb2,hg3⟩)
   | (go_at_call 265;refine (Jb _ m2 e2 H2.out).mono ?_;rintro o w4 ⟨bb3,rfl,hi3,hb3,hg4⟩)
   | (go_at_call 127;refine (U5 _ bb2 bb3 _ _ (hi2.more (by (focus ((repeat (first | assumption | exact Al _ _ | exact Ai _ _ | exact Af _ _ _ | refine Ae ?_ (Af _ _ _) | refine Ae ?_ (Ai _ _) | refine Ae ?_ (by assumption)));done)))) (hi3.more (by (focus ((repeat (first | assumption | exact Al _ _ | exact Ai _ _ | exact Af _ _ _ | refine Ae ?_ (Af _ _ _) | refine Ae ?_ (Ai _ _) | refine Ae ?_ (by assumption)));done)))) 3 (by omega) l1 l2).mono ?_;rintro o w5 ⟨rfl,hg5⟩;rw [HR.out]))
  all_goals
    go_wp2
    go_ret2
    exact ⟨rfl,Ae gw (Ae g2 (by (focus ((repeat (first | assumption | exact Al _ _ | exact Ai _ _ | exact Af _ _ _ | refine Ae ?_ (Af _ _ _) | refine Ae ?_ (Ai _ _) | refine Ae ?_ (by assumption)));done))))⟩
end
end Go.Proofs.YtckbiimikeiejaaGreatDoor
