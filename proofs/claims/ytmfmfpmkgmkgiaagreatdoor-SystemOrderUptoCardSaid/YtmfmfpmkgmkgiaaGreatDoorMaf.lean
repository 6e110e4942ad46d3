/- NumB NumC ModA ModB ModC ModD FlatA. -/
import Derived.Test.YtmfmfpmkgmkgiaaGreatDoorMae
import Derived.Lib.AtoiErrMem
import Derived.Maps.Own
import Derived.Maps.OwnOps
import Derived.Maps.OwnSet
set_option linter.unusedVariables false
set_option linter.unusedSimpArgs false
set_option maxHeartbeats 40000000
namespace Go.Proofs.YtmfmfpmkgmkgiaaGreatDoor
section
open Go.RowKit
open Rat
def numQ (m e:Int):Rat:=if e<0 then m /. (10 ^ e.natAbs:Int) else ((10 ^ e.natAbs:Int)*m) /. 1
theorem NumOK.bounds {m e:Int} (h:NumOK m e):-999999999≤m∧m≤999999999∧-18≤e∧e≤9:=by
 rcases h with ⟨rfl,rfl⟩ | ⟨_,h1,h2,_,h3,h4⟩
 ·omega
 ·exact ⟨h1,h2,h3,h4⟩
theorem O8 {k:Nat} (hk:k≤18):(10:Nat) ^ k≤1000000000000000000:=by
 have:=Nat.pow_le_pow_right (n:=10) (by omega) hk
 simpa using this
theorem Lu {k:Nat} (hk:k≤18):lim (10 ^ k:Int)≤2:=by
 rw [Ek,Int.natAbs_pow]
 exact Nat.lt_of_le_of_lt (O8 hk) (by decide)
theorem Lb (k:Nat):(10 ^ k:Int)≠0:=Int.pow_ne_zero (by decide)
theorem Ba {m e:Int} (h:NumOK m e):LimQ (numQ m e) 3:=by
 obtain ⟨h1,h2,h3,h4⟩:=h.bounds
 have l1:lim m≤1:=Hv (by omega)
 have l2:lim (10 ^ e.natAbs:Int)≤2:=Lu (by omega)
 unfold numQ
 split
 ·exact LimQ.divInt (Lb _) (by omega) (by omega)
 ·refine LimQ.divInt (by decide) ?_ (by decide)
  have:=C9 (10 ^ e.natAbs:Int) m
  omega
set_option maxRecDepth 100000 in
theorem Jb (w:World) (m e:Int) (h:NumOK m e) :
  Calls Tryz.prog 218 #[.agg #[.int .i64 m,.int .i64 e]] w fun o w'=>∃ b,o=.returned (.pointer (some ⟨b,0,none⟩))∧RatB w' b (numQ m e)∧w.heap.size≤b∧w.grownBy w' none:=by
 obtain ⟨h1,h2,h3,h4⟩:=h.bounds
 have gw:=Af w (.cells #[.int .i64 m,.int .i64 e] 25) none
 have hB:=Blk.new w #[.int .i64 m,.int .i64 e] 25
 have hs1:(w.alloc (.cells #[.int .i64 m,.int .i64 e] 25)).heap.size=w.heap.size+1:=by simp
 obtain ⟨b0,b1,_⟩:=hB.two
 by_cases he:e<0
 ·obtain ⟨k,rfl⟩:∃ k:Nat,e = -(k:Int):=⟨e.natAbs,by omega⟩
  have hk:k≤18:=by omega
  have hq:numQ m (-(k:Int))=m /. (10 ^ k:Int):=by unfold numQ;rw [if_pos he,Int.natAbs_neg,Int.natAbs_natCast]
  have HQ:=Ac hq
  have l2:=Lu hk
  have l1:lim m≤1:=Hv (by omega)
  have hne:=Ac (Lb k)
  clear hq h
  go_enter Tryz.func218,Tryz.ntmps218
  go_wp2_with fail
  generalize w.alloc (.cells #[.int .i64 m,.int .i64 (-(k:Int))] 25)=wa at *
  generalize hs:w.heap.size=s at *
  refine (Pa wa k (by omega)).mono ?_
  rintro o w1 ⟨b1',rfl,hi1,hb1,hg1⟩
  have c0:=Aj hg1 b0 (by simp)
  have c1:=Aj hg1 b1 (by simp)
  go_wp2_with fail
  refine (C3 w1 m (by omega) (by omega)).mono ?_
  rintro o w2 ⟨b2,rfl,hi2,hb2,hg2⟩
  go_wp2_with fail
  refine (I9 w2 b2 0 b1' 0 m _ hi2.at (hi1.more hg2).at (by omega) (by omega) hne.out).mono ?_
  rintro o w3 ⟨b3,rfl,hi3,hb3,hg3⟩
  have s1:=hg1.size
  have s2:=hg2.size
  go_wp2
  go_ret
  rw [←HQ.out] at hi3
  exact ⟨b3,rfl,hi3,by omega,Ae gw (Ae hg1 (Ae hg2 hg3))⟩
 ·obtain ⟨k,rfl⟩:∃ k:Nat,e=(k:Int):=⟨e.natAbs,by omega⟩
  have hk:k≤18:=by omega
  have hq:numQ m (k:Int)=((10 ^ k:Int)*m) /. 1:=by unfold numQ;rw [if_neg he,Int.natAbs_natCast]
  have HQ:=Ac hq
  have l2:=Lu hk
  have l1:lim m≤1:=Hv (by omega)
  have l3:=C9 (10 ^ k:Int) m
  clear hq h
  go_enter Tryz.func218,Tryz.ntmps218
  go_wp2_with fail
  generalize w.alloc (.cells #[.int .i64 m,.int .i64 (k:Int)] 25)=wa at *
  generalize hs:w.heap.size=s at *
  refine (Pa wa k (by omega)).mono ?_
  rintro o w1 ⟨b1',rfl,hi1,hb1,hg1⟩
  have c0:=Aj hg1 b0 (by simp)
  have c1:=Aj hg1 b1 (by simp)
  go_wp2_with fail
  refine (C3 w1 m (by omega) (by omega)).mono ?_
  rintro o w2 ⟨b2,rfl,hi2,hb2,hg2⟩
  have i2:=hi1.more hg2
  go_wp2_with fail
  refine (Ct w2 b1' b1' 0 b2 0 _ _ m i2 i2.at hi2.at (by omega) (by omega)).mono ?_
  rintro o w3 ⟨rfl,hi3,hg3⟩
  have s1:=hg1.size
  have s2:=hg2.size
  have G3:=Aw (Ae gw (Ae hg1 hg2)) hg3 (by omega)
  go_wp2_with fail
  refine (C3 w3 1 (by omega) (by omega)).mono ?_
  rintro o w4 ⟨b4,rfl,hi4,hb4,hg4⟩
  go_wp2_with fail
  refine (I9 w4 b1' 0 b4 0 _ 1 (hi3.more hg4).at hi4.at (by omega) (by decide) (by decide)).mono ?_
  rintro o w5 ⟨b5,rfl,hi5,hb5,hg5⟩
  have s3:=hg3.size
  have s4:=hg4.size
  go_wp2
  go_ret
  rw [←HQ.out] at hi5
  exact ⟨b5,rfl,hi5,by omega,Ae G3 (Ae hg4 hg5)⟩
def RatV (w:World) (v:Value) (q:Rat):Prop:=∃ v1 v2,v=.agg #[.bool (decide (q.num<0)),v1,.bool false,v2]∧Nums w v1 (digs q.num)∧Nums w v2 (digs (q.den:Int))
set_option maxRecDepth 100000 in
theorem Ib (w:World) (m e:Int) (h:NumOK m e) :
  Calls Tryz.prog 183 #[.agg #[.int .i64 m,.int .i64 e]] w fun o w'=>∃ v,o=.returned (.tuple #[v,.int .i64 0])∧RatV w' v (numQ m e)∧w.grownBy w' none:=by
 obtain ⟨h1,h2,h3,h4⟩:=h.bounds
 have gw:=Ae (Af w (.cells #[.int .i64 m,.int .i64 e] 25) none) (Af _ (.cells #[.bool false,.slice none 0 0,.bool false,.slice none 0 0] 94) none)
 have hB:=(Blk.new w #[.int .i64 m,.int .i64 e] 25).more (Af _ (.cells #[.bool false,.slice none 0 0,.bool false,.slice none 0 0] 94) none)
 have hC:=Blk.new (w.alloc (.cells #[.int .i64 m,.int .i64 e] 25)) #[.bool false,.slice none 0 0,.bool false,.slice none 0 0] 94
 rw [World.size_alloc] at hC
 have hsz:((w.alloc (.cells #[.int .i64 m,.int .i64 e] 25)).alloc (.cells #[.bool false,.slice none 0 0,.bool false,.slice none 0 0] 94)).heap.size=w.heap.size+2:=by simp
 have hlq:=Ba h
 have HOK:=Ac h
 have hd:=decide_eq_true h
 have HD:=Ac hd
 obtain ⟨b0,b1,_⟩:=hB.two
 clear h hd hB
 go_enter Tryz.func183,Tryz.ntmps183
 go_wp2_with fail
 generalize (w.alloc (.cells #[.int .i64 m,.int .i64 e] 25)).alloc (.cells #[.bool false,.slice none 0 0,.bool false,.slice none 0 0] 94)=wa at *
 generalize hs:w.heap.size=s at *
 refine (Bd wa m e (by omega) (by omega) (by omega) (by omega)).mono ?_
 rintro o w1 ⟨rfl,hg1⟩
 rw [HD.out]
 have c0:=Aj hg1 b0 (by simp)
 have c1:=Aj hg1 b1 (by simp)
 go_wp2_with fail
 refine (Jb w1 m e HOK.out).mono ?_
 rintro o w2 ⟨b2,rfl,hr2,hb2,hg2⟩
 go_wp2_with fail
 refine (E7 w2 b2 (numQ m e) hr2 (hlq.mono (by omega))).mono ?_
 rintro o w3 ⟨v1,v2,rfl,hn1,hn2,hf1,hf2,hg3⟩
 have G3:=Ae hg1 (Ae hg2 hg3)
 obtain ⟨x0,x1,x2,x3,f0,f1,f2,f3⟩:=(hC.more G3).four
 obtain ⟨A1,m1,c1',rfl⟩:=hn1.ctor
 obtain ⟨A2,m2,c2',rfl⟩:=hn2.ctor
 have s1:=hg1.size
 have s2:=hg2.size
 go_wp2
 try simp only [Exit.inBlock,Exit.then]
 have hg6:w3.grownBy ((((w3.setCell ⟨s+1,0,none⟩ (.bool (decide ((numQ m e).num<0)))).setCell ⟨s+1,1,none⟩ (.slice A1 m1 c1')).setCell ⟨s+1,2,none⟩ (.bool false)).setCell ⟨s+1,3,none⟩ (.slice A2 m2 c2')) (some (s+1)):=Ae (Ae (Ae (Au _ _ _ _) (Au _ _ _ _)) (Au _ _ _ _)) (Au _ _ _ _)
 refine bodyPost_ret (v:=.tuple #[.agg #[.bool (decide ((numQ m e).num<0)),.slice A1 m1 c1',.bool false,.slice A2 m2 c2'],.int .i64 0]) (by simp [results,Tryz.results183,go_sem,x0,x1,x2,x3]) rfl ⟨_,rfl,⟨_,_,rfl,?_,?_⟩,?_⟩
 ·exact hn1.apart hg6 (fun e=>by have:=hf1 _ e;omega)
 ·exact hn2.apart hg6 (fun e=>by have:=hf2 _ e;omega)
 ·exact Aw (Ae gw G3) hg6 (by omega)
end
section
open Go.RowKit
open Rat
def cmpQ (p q:Rat):Int:=if p<q then -1 else if p=q then 0 else 1
set_option maxRecDepth 100000 in
theorem Tx (w:World) (m1 e1 m2 e2:Int) (h1:NumOK m1 e1) (h2:NumOK m2 e2) :
    Calls Tryz.prog 201 #[.agg #[.int .i64 m1,.int .i64 e1],.agg #[.int .i64 m2,.int .i64 e2]] w fun o w'=>o=.returned (.tuple #[.int .i64 (cmpQ (numQ m1 e1) (numQ m2 e2)),.int .i64 0])∧w.grownBy w' none:=by
  have hb1:=h1.bounds
  have hb2:=h2.bounds
  have gw:=Ae (Af w (.cells #[.int .i64 m1,.int .i64 e1] 25) none) (Af _ (.cells #[.int .i64 m2,.int .i64 e2] 25) none)
  have hB1:=(Blk.new w #[.int .i64 m1,.int .i64 e1] 25).more (Af _ (.cells #[.int .i64 m2,.int .i64 e2] 25) none)
  have hB2:=Blk.new (w.alloc (.cells #[.int .i64 m1,.int .i64 e1] 25)) #[.int .i64 m2,.int .i64 e2] 25
  rw [World.size_alloc] at hB2
  have l1:=Ba h1
  have l2:=Ba h2
  have H1:=Ac h1
  have H2:=Ac h2
  have D1:=Ac (decide_eq_true h1)
  have D2:=Ac (decide_eq_true h2)
  obtain ⟨a0,a1,_⟩:=hB1.two
  obtain ⟨b0,b1,_⟩:=hB2.two
  obtain ⟨R,hR⟩:∃ R,cmpQ (numQ m1 e1) (numQ m2 e2)=R:=⟨_,rfl⟩
  have hR':(if numQ m1 e1<numQ m2 e2 then (-1:Int) else if numQ m1 e1=numQ m2 e2 then 0 else 1)=R:=hR
  have HR:=Ac hR'
  rw [hR]
  clear h1 h2 hR hR'
  go_enter Tryz.func201,Tryz.ntmps201
  go_wp2_with fail
  generalize (w.alloc (.cells #[.int .i64 m1,.int .i64 e1] 25)).alloc (.cells #[.int .i64 m2,.int .i64 e2] 25)=wa at *
  generalize hs:w.heap.size=s at *
  refine (Bd wa m1 e1 (by omega) (by omega) (by omega) (by omega)).mono ?_
  rintro o w1 ⟨rfl,hg1⟩
  rw [D1.out]
  have c0:=Aj hg1 b0 (by simp)
  have c1:=Aj hg1 b1 (by simp)
  go_wp2_with fail
  refine (Bd w1 m2 e2 (by omega) (by omega) (by omega) (by omega)).mono ?_
  rintro o w2 ⟨rfl,hg2⟩
  rw [D2.out]
  have g2:=Ae hg1 hg2
  have K:∀ w',w2.grownBy w' none→w'.cell? ⟨s,0,none⟩=some (.int .i64 m1)∧w'.cell? ⟨s,1,none⟩=some (.int .i64 e1)∧w'.cell? ⟨s+1,0,none⟩=some (.int .i64 m2)∧w'.cell? ⟨s+1,1,none⟩=some (.int .i64 e2):=fun w' h=>⟨(hB1.more (Ae g2 h)).cell 0,(hB1.more (Ae g2 h)).cell 1,(hB2.more (Ae g2 h)).cell 0,(hB2.more (Ae g2 h)).cell 1⟩
  obtain ⟨k0,k1,k2,k3⟩:=K w2 (Al _ _)
  have HK:=Ac K
  clear hB1 hB2 a0 a1 b0 b1 c0 c1 K
  go_wp2_with fail
  go_region_held3 (fun w'=>w'.cell? ⟨s,0,none⟩=some (.int .i64 m1)∧w'.cell? ⟨s,1,none⟩=some (.int .i64 e1)∧w'.cell? ⟨s+1,0,none⟩=some (.int .i64 m2)∧w'.cell? ⟨s+1,1,none⟩=some (.int .i64 e2)) ((refine HK.out _ ?_;(focus ((repeat (first | assumption | exact Al _ _ | exact Ai _ _ | exact Af _ _ _ | refine Ae ?_ (Af _ _ _) | refine Ae ?_ (Ai _ _) | refine Ae ?_ (by assumption)));done))))
   (first
   | (go_at_call_of 218 (Value.agg #[.int .i64 m1,.int .i64 e1]);refine (Jb _ m1 e1 H1.out).mono ?_;rintro o w3 ⟨bb2,rfl,hi2,hb2,hg3⟩)
   | (go_at_call 218;refine (Jb _ m2 e2 H2.out).mono ?_;rintro o w4 ⟨bb3,rfl,hi3,hb3,hg4⟩)
   | (go_at_call 232;refine (U5 _ bb2 bb3 _ _ (hi2.more (by (focus ((repeat (first | assumption | exact Al _ _ | exact Ai _ _ | exact Af _ _ _ | refine Ae ?_ (Af _ _ _) | refine Ae ?_ (Ai _ _) | refine Ae ?_ (by assumption)));done)))) (hi3.more (by (focus ((repeat (first | assumption | exact Al _ _ | exact Ai _ _ | exact Af _ _ _ | refine Ae ?_ (Af _ _ _) | refine Ae ?_ (Ai _ _) | refine Ae ?_ (by assumption)));done)))) 3 (by omega) l1 l2).mono ?_;rintro o w5 ⟨rfl,hg5⟩;rw [HR.out]))
  all_goals
    go_wp2
    go_ret2
    exact ⟨rfl,Ae gw (Ae g2 (by (focus ((repeat (first | assumption | exact Al _ _ | exact Ai _ _ | exact Af _ _ _ | refine Ae ?_ (Af _ _ _) | refine Ae ?_ (Ai _ _) | refine Ae ?_ (by assumption)));done))))⟩
end
section
open Go.RowKit
open Rat
theorem Hn (q:Rat):sg (decide (q.num<0)) (val 4294967296 (digs q.num)) /. sg false (val 4294967296 (digs (q.den:Int)))=q:=by
 rw [By,By,Hp]
 simp [sg]
theorem RatV.forms {w:World} {v:Value} {q:Rat} (h:RatV w v q):∃ A1 n1 c1 A2 n2 c2,v=.agg #[.bool (decide (q.num<0)),.slice A1 n1 c1,.bool false,.slice A2 n2 c2]∧Nums w (.slice A1 n1 c1) (digs q.num)∧Nums w (.slice A2 n2 c2) (digs (q.den:Int)):=by
 obtain ⟨v1,v2,rfl,h1,h2⟩:=h
 obtain ⟨A1,n1,c1,rfl⟩:=h1.ctor
 obtain ⟨A2,n2,c2,rfl⟩:=h2.ctor
 exact ⟨_,_,_,_,_,_,rfl,h1,h2⟩
theorem RatV.more {w w':World} {v:Value} {q:Rat} (h:RatV w v q) (hg:w.grownBy w' none):RatV w' v q:=by
 obtain ⟨v1,v2,rfl,h1,h2⟩:=h
 exact ⟨v1,v2,rfl,h1.more hg,h2.more hg⟩
theorem Iq (q:Rat):val 4294967296 (digs (q.den:Int))≠0:=by
 rw [By];have:=q.den_nz;omega
set_option maxRecDepth 100000 in
theorem Fd (w:World) (m e:Int) (h:NumOK m e) :
  Calls Tryz.prog 208 #[.agg #[.int .i64 m,.int .i64 e]] w fun o w'=>∃ b,o=.returned (.pointer (some ⟨b,0,none⟩))∧RatB w' b (numQ m e)∧w.heap.size≤b∧w.grownBy w' none:=by
 have hlq:=Ba h
 have gw:=Af w (.cells #[.int .i64 m,.int .i64 e] 25) none
 have hB:=Blk.new w #[.int .i64 m,.int .i64 e] 25
 have hs1:(w.alloc (.cells #[.int .i64 m,.int .i64 e] 25)).heap.size=w.heap.size+1:=by simp
 obtain ⟨b0,b1,_⟩:=hB.two
 have HOK:=Ac h
 have hb:=h.bounds
 clear h hB
 go_enter Tryz.func208,Tryz.ntmps208
 go_wp2_with fail
 generalize w.alloc (.cells #[.int .i64 m,.int .i64 e] 25)=wa at *
 generalize hs:w.heap.size=s at *
 refine (Ib wa m e HOK.out).mono ?_
 rintro o w1 ⟨v,rfl,hv,hg1⟩
 obtain ⟨A1,n1,c1,A2,n2,c2,rfl,hn1,hn2⟩:=hv.forms
 have hC:=Blk.new w1 #[.bool (decide ((numQ m e).num<0)),.slice A1 n1 c1,.bool false,.slice A2 n2 c2] 94
 have g2:=Af w1 (.cells #[.bool (decide ((numQ m e).num<0)),.slice A1 n1 c1,.bool false,.slice A2 n2 c2] 94) none
 have s1:=hg1.size
 have s2:=g2.size
 have hD:Hid (sg (decide ((numQ m e).num<0)) (val 4294967296 (digs (numQ m e).num)) /. sg false (val 4294967296 (digs ((numQ m e).den:Int)))=numQ m e):=Ac (Hn _)
 obtain ⟨d0,d1,d2,d3,_⟩:=hC.four
 have l1:=hlq.1
 have l2:=hlq.2
 go_wp2_with fail
 generalize w1.alloc (.cells #[.bool (decide ((numQ m e).num<0)),.slice A1 n1 c1,.bool false,.slice A2 n2 c2] 94)=w2 at *
 refine (Et w2 _ false _ _ (digs (numQ m e).num) (digs ((numQ m e).den:Int)) (hn1.more g2) (hn2.more g2) (Nat.le_trans l1 (by omega)) (Nat.le_trans l2 (by omega)) (Iq _)).mono ?_
 rintro o w3 ⟨b3,rfl,hr3,hb3,hg3⟩
 rw [hD.out] at hr3
 go_wp2
 go_ret
 exact ⟨b3,rfl,hr3,by omega,Ae gw (Ae hg1 (Ae g2 hg3))⟩
set_option maxRecDepth 100000 in
theorem Rb (w:World) (m e:Int) (h:NumOK m e) :
  Calls Tryz.prog 124 #[.agg #[.int .i64 m,.int .i64 e]] w fun o w'=>∃ b,o=.returned (.pointer (some ⟨b,0,none⟩))∧RatB w' b (numQ m e)∧w.heap.size≤b∧w.grownBy w' none:=by
 have hlq:=Ba h
 have gw:=Af w (.cells #[.int .i64 m,.int .i64 e] 25) none
 have hB:=Blk.new w #[.int .i64 m,.int .i64 e] 25
 have hs1:(w.alloc (.cells #[.int .i64 m,.int .i64 e] 25)).heap.size=w.heap.size+1:=by simp
 obtain ⟨b0,b1,_⟩:=hB.two
 have HOK:=Ac h
 have hb:=h.bounds
 clear h hB
 go_enter Tryz.func124,Tryz.ntmps124
 go_wp2_with fail
 generalize w.alloc (.cells #[.int .i64 m,.int .i64 e] 25)=wa at *
 generalize hs:w.heap.size=s at *
 refine (Ib wa m e HOK.out).mono ?_
 rintro o w1 ⟨v,rfl,hv,hg1⟩
 obtain ⟨A1,n1,c1,A2,n2,c2,rfl,hn1,hn2⟩:=hv.forms
 have hC:=Blk.new w1 #[.bool (decide ((numQ m e).num<0)),.slice A1 n1 c1,.bool false,.slice A2 n2 c2] 94
 have g2:=Af w1 (.cells #[.bool (decide ((numQ m e).num<0)),.slice A1 n1 c1,.bool false,.slice A2 n2 c2] 94) none
 have s1:=hg1.size
 have s2:=g2.size
 have hD:Hid (sg (decide ((numQ m e).num<0)) (val 4294967296 (digs (numQ m e).num)) /. sg false (val 4294967296 (digs ((numQ m e).den:Int)))=numQ m e):=Ac (Hn _)
 obtain ⟨d0,d1,d2,d3,_⟩:=hC.four
 have l1:=hlq.1
 have l2:=hlq.2
 go_wp2_with fail
 generalize w1.alloc (.cells #[.bool (decide ((numQ m e).num<0)),.slice A1 n1 c1,.bool false,.slice A2 n2 c2] 94)=w2 at *
 refine (Et w2 _ false _ _ (digs (numQ m e).num) (digs ((numQ m e).den:Int)) (hn1.more g2) (hn2.more g2) (Nat.le_trans l1 (by omega)) (Nat.le_trans l2 (by omega)) (Iq _)).mono ?_
 rintro o w3 ⟨b3,rfl,hr3,hb3,hg3⟩
 rw [hD.out] at hr3
 go_wp2
 go_ret
 exact ⟨b3,rfl,hr3,by omega,Ae gw (Ae hg1 (Ae g2 hg3))⟩
end
section
open Go.RowKit
def De (b:Nat):Bool:=(decide (97≤b)&&decide (b≤122))||(decide (48≤b)&&decide (b≤57))||decide (b=95)
def D9 (l:List UInt8):Bool:=decide (1≤l.length)&&decide (l.length≤16)&&l.all fun b=>De b.toNat
theorem Yy (w:World) (e:TypeId) (s:ByteArray):w.grownBy (Lib.bytesWorld w e s) none:=Hk (Lib.bytesWorld_below w e s)
set_option maxRecDepth 100000 in
theorem Na (w:World) (s:ByteArray) :
  Calls Tryz.prog 200 #[.string s] w fun e w'=>e=.returned (.bool (D9 s.data.toList))∧w.grownBy w' none:=by
 have hlen:s.data.toList.length=s.size:=rfl
 by_cases hl:1≤s.size∧s.size≤16
 ·obtain ⟨l1,l2⟩:=hl
  have hr:D9 s.data.toList=s.data.toList.all fun b=>De b.toNat:=by
   unfold D9;rw [hlen,decide_eq_true l1,decide_eq_true l2];simp
  have hcv:=Lib.run_convert_string_bytes (P:=Tryz.prog) w 9 290 5 s (u:=.string) Tryz.underlying9 Tryz.underlying290 Tryz.underlying5
  have hcell:=fun j hj=>Lib.bytesWorld_cell w 5 s j hj
  have gw:=Yy w 5 s
  rw [hr]
  have HL:=Ac hlen
  clear hr hlen
  generalize Lib.bytesWorld w 5 s=wb at *
  generalize s.data.toList=l at *
  generalize hn:s.size=n at *
  go_enter Tryz.func200,Tryz.ntmps200
  go_wp2
  go_loopw [16] (fun i wr=>∃ k:Nat,k≤n∧i=.int .i64 k∧wb=wr∧Hid (∀ j,j<k→De (l.getD j 0).toNat=true)) (fun i _=>(n-intOf i).toNat)
  case atStart=>exact ⟨0,by omega,rfl,rfl,Ac (fun j hj=>by omega)⟩
  case round =>
   obtain ⟨k,hk,rfl,rfl,hb⟩:=hrel
   by_cases hlt:k<n
   ·have hc:=hcell k hlt
    have hc8:(l.getD k 0).toNat<256:=(l.getD k 0).toNat_lt
    clear hcell hcv
    generalize hx:(l.getD k 0).toNat=x at *
    have HX:=Ac hx
    clear hx
    by_cases hnb:De x=true
    ·have HNB:=Ac hnb
     have hnb':(97≤x∧x≤122)∨(48≤x∧x≤57)∨x=95:=by simpa [De,or_assoc] using hnb
     clear hnb
     go_wp2
     all_goals first
      | exact ⟨⟨k+1,by omega,Bl (by omega),trivial,Ac (fun j hj=>by
        by_cases hjk:j=k
        ·subst hjk;rw [HX.out];exact HNB.out
        ·exact hb.out j (by omega))⟩,by simp [intOf];omega⟩
      | (exfalso;simp at *;omega)
    ·have hnb':¬ ((97≤x∧x≤122)∨(48≤x∧x≤57)∨x=95):=fun h=>hnb (by simpa [De,or_assoc] using h)
     have hf:(l.all fun b=>De b.toNat)=false:=by
      rw [List.all_eq_false]
      have hkl:k<l.length:=by rw [HL.out];exact hlt
      refine ⟨l[k],List.getElem_mem _,?_⟩
      have:l.getD k 0=l[k]:=by simp [List.getD,List.getElem?_eq_getElem hkl]
      rw [←this,HX.out]
      exact hnb
     have HF:=Ac hf
     clear hnb hf
     go_wp2
     all_goals first
      | (go_ret;rw [HF.out];exact ⟨rfl,gw⟩)
      | (exfalso;simp at *;omega)
   ·obtain rfl:k=n:=by omega
    have ht:(l.all fun b=>De b.toNat)=true:=by
     rw [List.all_eq_true]
     intro b hbm
     obtain ⟨j,hj,rfl⟩:=List.mem_iff_getElem.1 hbm
     have:=hb.out j (by have:=HL.out;omega)
     rwa [show l.getD j 0=l[j] by simp [List.getD,List.getElem?_eq_getElem hj]] at this
    have HT:=Ac ht
    clear ht hb
    go_wp2
    go_ret
    rw [HT.out]
    exact ⟨rfl,gw⟩
 ·have hr:D9 s.data.toList=false:=by
   unfold D9;rw [hlen]
   have:¬ (1≤s.size∧s.size≤16):=hl
   by_cases h1:1≤s.size
   ·have h2:¬ s.size≤16:=fun h=>hl ⟨h1,h⟩
    simp [h2]
   ·simp [h1]
  rw [hr]
  clear hlen hr
  generalize hn:s.size=n at *
  go_enter Tryz.func200,Tryz.ntmps200
  by_cases h1:n<1
  ·go_wp2
   go_ret
   exact ⟨rfl,Al _ _⟩
  ·have h2:16<n:=by omega
   go_wp2
   go_ret
   exact ⟨rfl,Al _ _⟩
end
section
open Go.RowKit
open Rat
def I64 (x:Int):Prop:=-9223372036854775808≤x∧x≤9223372036854775807
def NumRow (w:World) (v:Value) (ns:List (Int × Int)):Prop :=
 ∃ A c,v=.slice A ns.length c∧ns.length≤c∧c≤9223372036854775807∧(∀ p∈ns,I64 p.1∧I64 p.2)∧
  (0<ns.length→∃ b o,A=some ⟨b,o,none⟩∧∀ i,i<ns.length→w.cell? ⟨b,o+i*2,none⟩=some (.int .i64 (ns.getD i (0,0)).1)∧w.cell? ⟨b,o+i*2+1,none⟩=some (.int .i64 (ns.getD i (0,0)).2))
theorem NumRow.more {w w':World} {v:Value} {ns:List (Int × Int)} (h:NumRow w v ns) (hg:w.grownBy w' none):NumRow w' v ns:=by
 obtain ⟨A,c,rfl,h1,h2,h3,h4⟩:=h
 refine ⟨A,c,rfl,h1,h2,h3,fun hp=>?_⟩
 obtain ⟨b,o,rfl,hc⟩:=h4 hp
 exact ⟨b,o,rfl,fun i hi=>⟨Aj hg (hc i hi).1 (by simp),Aj hg (hc i hi).2 (by simp)⟩⟩
theorem NumRow.i64 {w:World} {v:Value} {ns:List (Int × Int)} (h:NumRow w v ns) (i:Nat):I64 (ns.getD i (0,0)).1∧I64 (ns.getD i (0,0)).2:=by
 obtain ⟨A,c,_,_,_,h3,_⟩:=h
 by_cases hi:i<ns.length
 ·have:ns.getD i (0,0)=ns[i]:=by simp [List.getD,List.getElem?_eq_getElem hi]
  rw [this];exact h3 _ (List.getElem_mem _)
 ·have:ns.getD i (0,0)=(0,0):=by simp [List.getD,List.getElem?_eq_none (Nat.le_of_not_lt hi)]
  rw [this];exact ⟨⟨by decide,by decide⟩,by decide,by decide⟩
def Bu (p:Int × Int):Bool:=decide (NumOK p.1 p.2)
def pQ (p:Int × Int):Rat:=numQ p.1 p.2
def Bk (nm:List UInt8) (kind:Int) (gs vs:List (Int × Int)):Bool :=
  D9 nm&&gs.all Bu&&vs.all Bu &&
    (if kind=115 then decide (gs.length=2)&&decide (vs.length=1)
     else if kind=100 then decide (1≤gs.length)&&decide (gs.length≤4)&&decide (vs.length+1=gs.length)&&decide (∀ i,i<vs.length→1≤i→pQ (vs.getD (i-1) (0,0))<pQ (vs.getD i (0,0)))
     else false)
theorem F8 {l:List (Int × Int)} {k:Nat} (hk:k<l.length) (h:Bu (l.getD k (0,0))=false):l.all Bu=false:=by
 rw [List.all_eq_false]
 refine ⟨l[k],List.getElem_mem _,?_⟩
 rw [show l.getD k (0,0)=l[k] by simp [List.getD,List.getElem?_eq_getElem hk]] at h
 simp [h]
theorem Ez {l:List (Int × Int)} (h:∀ t,t<l.length→Bu (l.getD t (0,0))=true):l.all Bu=true:=by
 rw [List.all_eq_true]
 intro x hx
 obtain ⟨j,hj,rfl⟩:=List.mem_iff_getElem.1 hx
 have:=h j hj
 rwa [show l.getD j (0,0)=l[j] by simp [List.getD,List.getElem?_eq_getElem hj]] at this
theorem Jh {l:List (Int × Int)} (h:l.all Bu=true) (k:Nat) (hk:k<l.length):NumOK (l.getD k (0,0)).1 (l.getD k (0,0)).2:=by
 rw [List.all_eq_true] at h
 have:=h l[k] (List.getElem_mem _)
 rw [show l.getD k (0,0)=l[k] by simp [List.getD,List.getElem?_eq_getElem hk]]
 simpa [Bu] using this
theorem Nx {nm:List UInt8} {kind:Int} {gs vs:List (Int × Int)} (h:gs.all Bu=false):Bk nm kind gs vs=false:=by simp [Bk,h]
theorem Ny {nm:List UInt8} {kind:Int} {gs vs:List (Int × Int)} (h:vs.all Bu=false):Bk nm kind gs vs=false:=by simp [Bk,h]
set_option maxRecDepth 100000 in
theorem G6 (w:World) (nm:ByteArray) (kind:Int) (vg vv:Value) (gs vs:List (Int × Int)) (hk1:0≤kind) (hk2:kind≤255) (hg:NumRow w vg gs) (hv:NumRow w vv vs) :
    Calls Tryz.prog 147 #[.agg #[.string nm,.int .u8 kind,vg,vv]] w fun e w'=>e=.returned (.bool (Bk nm.data.toList kind gs vs))∧w.grownBy w' none:=by
  have gw:=fun vg vv=>Af w (.cells #[.string nm,.int .u8 kind,vg,vv] 87) none
  have hB:=fun vg vv=>Blk.new w #[.string nm,.int .u8 kind,vg,vv] 87
  have hgi:=hg.i64
  have hvi:=hv.i64
  have hg1:=fun v=>hg.more (gw v vv)
  have hv1:=fun v=>hv.more (gw vg v)
  obtain ⟨A1,c1,rfl,a1,a2,a3,a4⟩:=hg
  obtain ⟨A2,c2,rfl,b1,b2,b3,b4⟩:=hv
  obtain ⟨m0,m1,m2,m3,_⟩:=(hB (.slice A1 gs.length c1) (.slice A2 vs.length c2)).four
  have gw':=gw (.slice A1 gs.length c1) (.slice A2 vs.length c2)
  go_enter Tryz.func147,Tryz.ntmps147
  go_wp2_with fail
  generalize w.alloc (.cells #[.string nm,.int .u8 kind,.slice A1 gs.length c1,.slice A2 vs.length c2] 87)=wa at *
  generalize hs:w.heap.size=s at *
  refine (Na wa nm).mono ?_
  rintro e w1 ⟨rfl,hw1⟩
  cases hnm:D9 nm.data.toList with
  | false =>
    have hr:Bk nm.data.toList kind gs vs=false:=by simp [Bk,hnm]
    have HR:=Ac hr
    clear hnm hr
    go_wp2
    go_ret
    rw [HR.out]
    exact ⟨rfl,Ae gw' hw1⟩
  | true =>
    have HNM:=Ac hnm
    clear hnm
    have n0:=Aj hw1 m0 (by simp)
    have n1:=Aj hw1 m1 (by simp)
    have n2:=Aj hw1 m2 (by simp)
    have n3:=Aj hw1 m3 (by simp)
    have i0:∀ W:World,(Instr.index 268 (.agg #[.slice A1 gs.length c1,.slice A2 vs.length c2]) (.int .i64 0)).run Tryz.prog W=.ok (.slice A1 gs.length c1) W:=fun _=>by kernel_rfl
    have i1:∀ W:World,(Instr.index 268 (.agg #[.slice A1 gs.length c1,.slice A2 vs.length c2]) (.int .i64 1)).run Tryz.prog W=.ok (.slice A2 vs.length c2) W:=fun _=>by kernel_rfl
    go_wp2
    go_loopw [19] (fun i wr=>∃ z:Int,i=.int .i64 z∧(z=0∨(z=1∧Hid (gs.all Bu=true))∨(z=2∧Hid (gs.all Bu=true∧vs.all Bu=true)))∧w1.grownBy wr none) (fun i _=>(2-intOf i).toNat)
    case atStart=>exact ⟨0,rfl,.inl rfl,Al _ _⟩
    case round =>
      obtain ⟨j,rfl,hj,hgr⟩:=hrel
      rcases hj with rfl | ⟨rfl,hall⟩ | ⟨rfl,hall⟩
      rotate_right 1
      · have k1:=Aj hgr n1 (by simp)
        have k2:=Aj hgr n2 (by simp)
        have k3:=Aj hgr n3 (by simp)
        have gE:=Ae gw' (Ae hw1 hgr)
        have hM:Bk nm.data.toList kind gs vs=(if kind=115 then decide (gs.length=2)&&decide (vs.length=1)
     else if kind=100 then decide (1≤gs.length)&&decide (gs.length≤4)&&decide (vs.length+1=gs.length)&&decide (∀ i,i<vs.length→1≤i→pQ (vs.getD (i-1) (0,0))<pQ (vs.getD i (0,0)))
     else false):=by unfold Bk;rw [HNM.out,hall.out.1,hall.out.2];simp
        by_cases h115:kind=115
        · rw [if_pos h115] at hM
          have HM:=Ac hM
          subst h115
          clear hM n0 n1 n2 n3 m0 m1 m2 m3 i0 i1 hall hgi hvi a3 a4 b3 b4
          generalize gs.length=lg at *
          generalize vs.length=lv at *
          go_wp2
          all_goals
            go_ret
            rw [HM.out]
            exact ⟨Ao (by rw [Bool.eq_iff_iff];simp;try omega),gE⟩
        · rw [if_neg h115] at hM
          have t115:(kind==115)=false:=by rw [beq_eq_false_iff_ne];exact h115
          by_cases h100:kind=100
          · rw [if_pos h100] at hM
            by_cases hL:1≤gs.length∧gs.length≤4∧vs.length+1=gs.length
            · obtain ⟨L1,L2,L3⟩:=hL
              rw [decide_eq_true L1,decide_eq_true L2,decide_eq_true L3,Bool.true_and,Bool.true_and,Bool.true_and] at hM
              have HM:=Ac hM
              subst h100
              clear hM hgi a3 a4
              have HA:=Ac hall.out.2
              have hvl:vs.length≤3:=by omega
              clear m0 m1 m2 m3 i0 i1 h115 gw hB hg1 hv1
              have t3:((vs.length:Int) != (gs.length:Int)-1)=false:=by rw [bne_eq_false_iff_eq];omega
              have t4:(vs.length:Int)=(gs.length:Int)-1:=by omega
              go_wp2
              clear t3 t4 L1 L2 L3 k1 k2 k3
              generalize gs.length=lg at *
              obtain ⟨wo,rfl⟩:∃ wo:World,wo=wr:=⟨_,rfl⟩
              go_loopw [7] (fun i wr=>∃ m:Nat,(m=0∨m<vs.length)∧i=.int .i64 ((m:Int)+1)∧w1.grownBy wr none∧Hid (∀ t,t<m→pQ (vs.getD t (0,0))<pQ (vs.getD (t+1) (0,0)))) (fun i _=>(vs.length-intOf i).toNat)
              case atStart=>exact ⟨0,.inl rfl,Bl (by omega),hgr,Ac (fun t ht=>by omega)⟩
              case round =>
                obtain ⟨m,hm,rfl,hgm,hord⟩:=hrel
                have k3:=Aj hgm n3 (by simp)
                by_cases hlt:m+1<vs.length
                · obtain ⟨b,o,rfl,hc⟩:=b4 (by omega)
                  obtain ⟨p0,p1⟩:=hc m (by omega)
                  obtain ⟨p2,p3⟩:=hc (m+1) hlt
                  have q0:=Aj hgm (Aj hw1 (Aj gw' p0 (by simp)) (by simp)) (by simp)
                  have q1:=Aj hgm (Aj hw1 (Aj gw' p1 (by simp)) (by simp)) (by simp)
                  have q2:=Aj hgm (Aj hw1 (Aj gw' p2 (by simp)) (by simp)) (by simp)
                  have q3:=Aj hgm (Aj hw1 (Aj gw' p3 (by simp)) (by simp)) (by simp)
                  have ok1:=Jh HA.out m (by omega)
                  have ok2:=Jh HA.out (m+1) hlt
                  clear hc p0 p1 p2 p3
                  generalize hp:vs.getD m (0,0)=p at *
                  generalize hq:vs.getD (m+1) (0,0)=q at *
                  have HP:=Ac hp
                  have HQ:=Ac hq
                  obtain ⟨x1,y1⟩:=p
                  obtain ⟨x2,y2⟩:=q
                  simp only at q0 q1 q2 q3 ok1 ok2
                  have OK1:=Ac ok1
                  have OK2:=Ac ok2
                  have e1:IntKind.i64.wrap ((m:Int)+1-1)=(m:Int):=by rw [show (m:Int)+1-1=m by omega];exact IntWalk.i64_in _ (by omega)
                  have e1':IntKind.i64.wrap (m:Int)=(m:Int):=IntWalk.i64_in _ (by omega)
                  have e6:IntKind.i64.wrap ((m:Int)+1)=(m:Int)+1:=IntWalk.i64_in _ (by omega)
                  have e7:(0:Int)≤(m:Int):=by omega
                  have e2:((m:Int)+1).toNat=m+1:=by omega
                  have e3:(m:Int)+1<(vs.length:Int):=by omega
                  have e4:(m:Int)<(vs.length:Int):=by omega
                  have e5:(0:Int)≤(m:Int)+1:=by omega
                  clear hp hq ok1 ok2
                  have hR:cmpQ (numQ x1 y1) (numQ x2 y2)<0↔pQ (vs.getD m (0,0))<pQ (vs.getD (m+1) (0,0)):=by
                    rw [HP.out,HQ.out]
                    unfold cmpQ pQ
                    by_cases hpq:numQ x1 y1<numQ x2 y2
                    · simp [hpq]
                    · by_cases heq:numQ x1 y1=numQ x2 y2<;>simp [hpq,heq]
                  have HR:=Ac hR
                  clear hR
                  obtain ⟨R,hRR⟩:∃ R,cmpQ (numQ x1 y1) (numQ x2 y2)=R:=⟨_,rfl⟩
                  have HRR:=Ac hRR
                  clear hRR
                  generalize hlv:vs.length=lv at *
                  have HLV:=Ac hlv
                  clear hlv
                  have K:∀ w',wr.grownBy w' none→w'.cell? ⟨s,3,none⟩=some (.slice (some ⟨b,o,none⟩) lv c2)∧w'.cell? ⟨b,o+m*2,none⟩=some (.int .i64 x1)∧w'.cell? ⟨b,o+m*2+1,none⟩=some (.int .i64 y1)∧w'.cell? ⟨b,o+(m+1)*2,none⟩=some (.int .i64 x2)∧w'.cell? ⟨b,o+(m+1)*2+1,none⟩=some (.int .i64 y2):=fun w' h=>⟨Aj h k3 (by simp),Aj h q0 (by simp),Aj h q1 (by simp),Aj h q2 (by simp),Aj h q3 (by simp)⟩
                  have HK:=Ac K
                  clear K
                  go_wp2_with fail
                  go_region_held3 (fun w'=>w'.cell? ⟨s,3,none⟩=some (.slice (some ⟨b,o,none⟩) lv c2)∧w'.cell? ⟨b,o+m*2,none⟩=some (.int .i64 x1)∧w'.cell? ⟨b,o+m*2+1,none⟩=some (.int .i64 y1)∧w'.cell? ⟨b,o+(m+1)*2,none⟩=some (.int .i64 x2)∧w'.cell? ⟨b,o+(m+1)*2+1,none⟩=some (.int .i64 y2)) ((refine HK.out _ ?_;(focus ((repeat (first | assumption | exact Al _ _ | exact Ai _ _ | exact Af _ _ _ | refine Ae ?_ (Af _ _ _) | refine Ae ?_ (Ai _ _) | refine Ae ?_ (by assumption)));done))))
                    ((go_at_call 201;refine (Tx _ x1 y1 x2 y2 OK1.out OK2.out).mono ?_;rintro o' w4 ⟨rfl,hg4⟩;rw [HRR.out]))
                  have g4:w1.grownBy w4 none:=Ae hgm (by (focus ((repeat (first | assumption | exact Al _ _ | exact Ai _ _ | exact Af _ _ _ | refine Ae ?_ (Af _ _ _) | refine Ae ?_ (Ai _ _) | refine Ae ?_ (by assumption)));done)))
                  clear e1 e1' e2 e3 e4 e5 e6 e7 hgm hgr
                  by_cases hR0:R<0
                  · have HO:Hid (pQ (vs.getD m (0,0))<pQ (vs.getD (m+1) (0,0))):=Ac (HR.out.1 (by rw [HRR.out];exact hR0))
                    go_wp2
                    exact ⟨⟨m+1,.inr (by omega),Bl (by omega),g4,Ac (fun t ht=>by
                      by_cases htm:t=m
                      · subst htm;exact HO.out
                      · exact hord.out t (by omega))⟩,by simp [intOf];omega⟩
                  · have hno:¬ pQ (vs.getD m (0,0))<pQ (vs.getD (m+1) (0,0)):=fun h=>hR0 (by rw [←HRR.out];exact HR.out.2 h)
                    have hfin:Bk nm.data.toList 100 gs vs=false:=by
                      rw [HM.out,decide_eq_false_iff_not]
                      intro h
                      have:=h (m+1) hlt (by omega)
                      exact hno this
                    have HF:=Ac hfin
                    clear hno hfin
                    go_wp2
                    go_ret
                    rw [HF.out]
                    exact ⟨rfl,Ae gw' (Ae hw1 g4)⟩
                · have hfin:Bk nm.data.toList 100 gs vs=true:=by
                    rw [HM.out,decide_eq_true_iff]
                    intro i hi h1
                    have:=hord.out (i-1) (by omega)
                    rwa [show i-1+1=i by omega] at this
                  have HF:=Ac hfin
                  have hge:¬ ((m:Int)+1<(vs.length:Int)):=by omega
                  clear hfin hord hm
                  generalize vs.length=lv at *
                  go_wp2
                  go_ret
                  rw [HF.out]
                  exact ⟨rfl,Ae gw' (Ae hw1 hgm)⟩
            · have hM':Bk nm.data.toList kind gs vs=false:=by
                rw [hM]
                by_cases h1:1≤gs.length
                · by_cases h2:gs.length≤4
                  · have h3:¬ vs.length+1=gs.length:=fun h=>hL ⟨h1,h2,h⟩
                    simp [h3]
                  · simp [h2]
                · simp [h1]
              have HM:=Ac hM'
              subst h100
              clear hM hM' n0 n1 n2 n3 m0 m1 m2 m3 i0 i1 hall hgi hvi a3 a4 b3 b4
              generalize gs.length=lg at *
              generalize vs.length=lv at *
              by_cases h1:lg<1
              · go_wp2
                all_goals (go_ret;rw [HM.out];exact ⟨rfl,gE⟩)
              · by_cases h2:4<lg
                · go_wp2
                  all_goals (go_ret;rw [HM.out];exact ⟨rfl,gE⟩)
                · have h3:((lv:Int)==(lg:Int)-1)=false:=by rw [beq_eq_false_iff_ne];intro h;exact hL ⟨by omega,by omega,by omega⟩
                  have h4:¬ ((lv:Int)=(lg:Int)-1):=by intro h;exact hL ⟨by omega,by omega,by omega⟩
                  clear hL
                  go_wp2
                  all_goals first
                    | (go_ret;rw [HM.out];exact ⟨rfl,gE⟩)
                    | (exfalso;simp at *;omega)
          · rw [if_neg h100] at hM
            have HM:=Ac hM
            have t100:(kind==100)=false:=by rw [beq_eq_false_iff_ne];exact h100
            clear hM n0 n1 n2 n3 m0 m1 m2 m3 i0 i1 hall hgi hvi a3 a4 b3 b4 h115 h100
            go_wp2
            all_goals (go_ret;rw [HM.out];exact ⟨rfl,gE⟩)
      · skip
        · go_wp2
          obtain ⟨wo,rfl⟩:∃ wo:World,wo=wr:=⟨_,rfl⟩
          go_loopw [24] (fun i wr=>∃ k:Nat,k≤gs.length∧i=.int .i64 k∧w1.grownBy wr none∧Hid (∀ t,t<k→Bu (gs.getD t (0,0))=true)) (fun i _=>(gs.length-intOf i).toNat)
          case atStart=>exact ⟨0,by omega,rfl,hgr,Ac (fun t ht=>by omega)⟩
          case round =>
            obtain ⟨k,hk,rfl,hg,hb⟩:=hrel
            by_cases hlt:k<gs.length
            · obtain ⟨b,o,rfl,hc⟩:=a4 (by omega)
              obtain ⟨p0,p1⟩:=hc k hlt
              have q0:=Aj hg (Aj hw1 (Aj gw' p0 (by simp)) (by simp)) (by simp)
              have q1:=Aj hg (Aj hw1 (Aj gw' p1 (by simp)) (by simp)) (by simp)
              obtain ⟨⟨u1,u2⟩,u3,u4⟩:=hgi k
              clear hc p0 p1
              generalize hp:gs.getD k (0,0)=p at *
              have HP:=Ac hp
              clear hp
              obtain ⟨m,e⟩:=p
              simp only at q0 q1 u1 u2 u3 u4
              go_wp2_with fail
              refine (Bd _ m e u1 u2 u3 u4).mono ?_
              rintro e' w3 ⟨rfl,hg3⟩
              have g3:=Ae hg (Ae (Af wr (.cells #[.int .i64 m,.int .i64 e] 25) none) hg3)
              cases hd:decide (NumOK m e) with
              | false =>
                have hr:Bk nm.data.toList kind gs vs=false:=Nx (F8 hlt (by rw [HP.out];exact hd))
                have HR:=Ac hr
                clear hd hr
                go_wp2
                go_ret
                rw [HR.out]
                exact ⟨rfl,Ae gw' (Ae hw1 g3)⟩
              | true =>
                have HD:Hid (Bu (gs.getD k (0,0))=true):=Ac (by rw [HP.out];exact hd)
                clear hd
                go_wp2
                exact ⟨⟨k+1,by omega,Bl (by omega),g3,Ac (fun t ht=>by
                  by_cases htk:t=k
                  · subst htk;exact HD.out
                  · exact hb.out t (by omega))⟩,by simp [intOf];omega⟩
            · obtain rfl:k=gs.length:=by omega
              have HA:Hid (gs.all Bu=true):=Ac (Ez hb.out)
              clear hb
              go_wp2
              exact ⟨⟨1,rfl,.inr (.inl ⟨rfl,HA⟩),hg⟩,by simp [intOf]⟩
      · skip
        · go_wp2
          obtain ⟨wo,rfl⟩:∃ wo:World,wo=wr:=⟨_,rfl⟩
          go_loopw [24] (fun i wr=>∃ k:Nat,k≤vs.length∧i=.int .i64 k∧w1.grownBy wr none∧Hid (∀ t,t<k→Bu (vs.getD t (0,0))=true)) (fun i _=>(vs.length-intOf i).toNat)
          case atStart=>exact ⟨0,by omega,rfl,hgr,Ac (fun t ht=>by omega)⟩
          case round =>
            obtain ⟨k,hk,rfl,hg,hb⟩:=hrel
            by_cases hlt:k<vs.length
            · obtain ⟨b,o,rfl,hc⟩:=b4 (by omega)
              obtain ⟨p0,p1⟩:=hc k hlt
              have q0:=Aj hg (Aj hw1 (Aj gw' p0 (by simp)) (by simp)) (by simp)
              have q1:=Aj hg (Aj hw1 (Aj gw' p1 (by simp)) (by simp)) (by simp)
              obtain ⟨⟨u1,u2⟩,u3,u4⟩:=hvi k
              clear hc p0 p1
              generalize hp:vs.getD k (0,0)=p at *
              have HP:=Ac hp
              clear hp
              obtain ⟨m,e⟩:=p
              simp only at q0 q1 u1 u2 u3 u4
              go_wp2_with fail
              refine (Bd _ m e u1 u2 u3 u4).mono ?_
              rintro e' w3 ⟨rfl,hg3⟩
              have g3:=Ae hg (Ae (Af wr (.cells #[.int .i64 m,.int .i64 e] 25) none) hg3)
              cases hd:decide (NumOK m e) with
              | false =>
                have hr:Bk nm.data.toList kind gs vs=false:=Ny (F8 hlt (by rw [HP.out];exact hd))
                have HR:=Ac hr
                clear hd hr
                go_wp2
                go_ret
                rw [HR.out]
                exact ⟨rfl,Ae gw' (Ae hw1 g3)⟩
              | true =>
                have HD:Hid (Bu (vs.getD k (0,0))=true):=Ac (by rw [HP.out];exact hd)
                clear hd
                go_wp2
                exact ⟨⟨k+1,by omega,Bl (by omega),g3,Ac (fun t ht=>by
                  by_cases htk:t=k
                  · subst htk;exact HD.out
                  · exact hb.out t (by omega))⟩,by simp [intOf];omega⟩
            · obtain rfl:k=vs.length:=by omega
              have HA:Hid (vs.all Bu=true):=Ac (Ez hb.out)
              clear hb
              go_wp2
              exact ⟨⟨2,rfl,.inr (.inr ⟨rfl,Ac ⟨hall.out,HA.out⟩⟩),hg⟩,by simp [intOf]⟩
end
section
open Go.RowKit
theorem Rc (w:World) (s:ByteArray) :
  Calls Tryz.prog 144 #[.string s] w fun e w'=>e=.returned (.bool (D9 s.data.toList))∧w.grownBy w' none:=by
 go_enter Tryz.func144,Tryz.ntmps144
 go_wp2_with fail
 refine (Na w s).mono ?_
 rintro e w1 ⟨rfl,hg⟩
 go_wp2
 go_ret
 exact ⟨rfl,hg⟩
theorem M9 (w:World) (nm:ByteArray) (kind:Int) (vg vv:Value) (gs vs:List (Int × Int)) (hk1:0≤kind) (hk2:kind≤255) (hg:NumRow w vg gs) (hv:NumRow w vv vs) :
  Calls Tryz.prog 93 #[.agg #[.string nm,.int .u8 kind,vg,vv]] w fun e w'=>e=.returned (.int .i64 (if Bk nm.data.toList kind gs vs=true then (gs.length:Int) else 0))∧w.grownBy w' none:=by
 have hg':=hg
 have hv':=hv
 obtain ⟨A1,c1,rfl,a1,a2,_,_⟩:=hg
 obtain ⟨A2,c2,rfl,b1,b2,_,_⟩:=hv
 have gw:=Af w (.cells #[.string nm,.int .u8 kind,.slice A1 gs.length c1,.slice A2 vs.length c2] 87) none
 have hB:=Blk.new w #[.string nm,.int .u8 kind,.slice A1 gs.length c1,.slice A2 vs.length c2] 87
 obtain ⟨m0,m1,m2,m3,_⟩:=hB.four
 have hC:=G6 (w.alloc (.cells #[.string nm,.int .u8 kind,.slice A1 gs.length c1,.slice A2 vs.length c2] 87)) nm kind _ _ gs vs hk1 hk2 (hg'.more gw) (hv'.more gw)
 have HC:=Ac hC
 clear hC hg' hv' hB
 cases hm:Bk nm.data.toList kind gs vs with
 | true =>
  rw [hm] at HC
  rw [if_pos rfl]
  go_enter Tryz.func93,Tryz.ntmps93
  go_wp2_with fail
  refine HC.out.mono ?_
  rintro e w1 ⟨rfl,hg1⟩
  have k2:=Aj hg1 m2 (by simp)
  go_wp2
  go_ret
  exact ⟨rfl,Ae gw hg1⟩
 | false =>
  rw [hm] at HC
  rw [if_neg (by simp)]
  go_enter Tryz.func93,Tryz.ntmps93
  go_wp2_with fail
  refine HC.out.mono ?_
  rintro e w1 ⟨rfl,hg1⟩
  go_wp2
  go_ret
  exact ⟨rfl,Ae gw hg1⟩
def segE (ok:Bool) (k:Int) (n:Nat):Int:=if ok=true then (if k<0∨(n:Int)≤k then 111 else 0) else 50
theorem S0 (w:World) (nm:ByteArray) (kind:Int) (vg vv:Value) (gs vs:List (Int × Int)) (k:Int) (hk1:0≤kind) (hk2:kind≤255) (hg:NumRow w vg gs) (hv:NumRow w vv vs) :
  Calls Tryz.prog 206 #[.agg #[.string nm,.int .u8 kind,vg,vv],.int .i64 k] w fun e w'=>e=.returned (.int .i64 (segE (Bk nm.data.toList kind gs vs) k gs.length))∧w.grownBy w' none:=by
 have hg':=hg
 have hv':=hv
 obtain ⟨A1,c1,rfl,a1,a2,_,_⟩:=hg
 obtain ⟨A2,c2,rfl,b1,b2,_,_⟩:=hv
 have gw:=Af w (.cells #[.string nm,.int .u8 kind,.slice A1 gs.length c1,.slice A2 vs.length c2] 87) none
 have hB:=Blk.new w #[.string nm,.int .u8 kind,.slice A1 gs.length c1,.slice A2 vs.length c2] 87
 obtain ⟨m0,m1,m2,m3,_⟩:=hB.four
 have hC:=G6 (w.alloc (.cells #[.string nm,.int .u8 kind,.slice A1 gs.length c1,.slice A2 vs.length c2] 87)) nm kind _ _ gs vs hk1 hk2 (hg'.more gw) (hv'.more gw)
 have HC:=Ac hC
 clear hC hg' hv' hB
 cases hm:Bk nm.data.toList kind gs vs with
 | true =>
  rw [hm] at HC
  have hE:segE true k gs.length=if k<0∨(gs.length:Int)≤k then 111 else 0:=rfl
  generalize gs.length=n at *
  by_cases h1:k<0
  ·rw [if_pos (.inl h1)] at hE
   rw [hE]
   clear hE
   go_enter Tryz.func206,Tryz.ntmps206
   go_wp2_with fail
   refine HC.out.mono ?_
   rintro e w1 ⟨rfl,hg1⟩
   have k2:=Aj hg1 m2 (by simp)
   go_wp2
   go_ret
   exact ⟨rfl,Ae gw hg1⟩
  ·by_cases h2:(n:Int)≤k
   ·rw [if_pos (.inr h2)] at hE
    rw [hE]
    clear hE
    go_enter Tryz.func206,Tryz.ntmps206
    go_wp2_with fail
    refine HC.out.mono ?_
    rintro e w1 ⟨rfl,hg1⟩
    have k2:=Aj hg1 m2 (by simp)
    go_wp2
    go_ret
    exact ⟨rfl,Ae gw hg1⟩
   ·rw [if_neg (by omega)] at hE
    rw [hE]
    clear hE
    go_enter Tryz.func206,Tryz.ntmps206
    go_wp2_with fail
    refine HC.out.mono ?_
    rintro e w1 ⟨rfl,hg1⟩
    have k2:=Aj hg1 m2 (by simp)
    go_wp2
    go_ret
    exact ⟨rfl,Ae gw hg1⟩
 | false =>
  rw [hm] at HC
  have hE:segE false k gs.length=50:=rfl
  rw [hE]
  clear hE
  go_enter Tryz.func206,Tryz.ntmps206
  go_wp2_with fail
  refine HC.out.mono ?_
  rintro e w1 ⟨rfl,hg1⟩
  go_wp2
  go_ret
  exact ⟨rfl,Ae gw hg1⟩
end
section
open Go.RowKit Go.Maps
theorem lawS:Keyed Tryz.prog 9:=string_keyed Tryz.underlying9
theorem A1q (w:World):(zeroValue 3).run Tryz.prog w=.ok (.int .i64 0) w:=by kernel_rfl
def strs (l:List ByteArray):List Value:=l.map Value.string
theorem Bt (l:List ByteArray):(strs l).length=l.length:=by simp [strs]
theorem I2 (l:List ByteArray) (i:Nat) (h:i<l.length):(strs l)[i]? = some (.string (l.getD i default)):=by
 simp [strs,List.getElem?_eq_getElem h,List.getD]
def key (s:ByteArray):Lit:=.string s.data.toList
theorem A0h {s t:ByteArray} (h:key s=key t):s=t:=by
 injection h with h
 cases s;cases t
 simpa using h
def Qe (l:List ByteArray) (k:Nat) (D:DataW Unit):Prop :=
 IsMap D∧Tidy D∧(∀ s:ByteArray,Maps.has D (key s)=true↔s∈l.take k)∧(Maps.size D=k↔(l.take k).Nodup)∧Maps.size D≤k
theorem Te (l:List ByteArray):Qe l 0 (.map []):=by
 refine ⟨isMap_empty,tidy_empty,fun s=>?_,?_,Nat.le_refl _⟩
 ·simp [Maps.has_eq]
 ·simp [Maps.size_eq]
theorem A1l (s:ByteArray):WideAt.IsKeyLit (key s):=trivial
theorem Tc {l:List ByteArray} {k:Nat} {D:DataW Unit} (h:Qe l k D) (hk:k<l.length) (d:DataW Unit):Qe l (k+1) (D.put (key (l.getD k default)) d):=by
 obtain ⟨h0,ht,h1,h2,h3⟩:=h
 have e:l.take (k+1)=l.take k++[l.getD k default]:=by
  rw [List.take_succ_eq_append_getElem hk];simp [List.getD,List.getElem?_eq_getElem hk]
 have hs:Maps.size (D.put (key (l.getD k default)) d)=if Maps.has D (key (l.getD k default)) then Maps.size D else Maps.size D+1:=size_put ht _
 refine ⟨h0.put _ _,ht.put (A1l _) _,fun s=>?_,?_,?_⟩
 ·by_cases hs:s=l.getD k default
  ·subst hs
   rw [has_put_same h0 (A1l _),e]
   simp
  ·have hne:key s≠key (l.getD k default):=fun hh=>hs (A0h hh)
   rw [has_put_other hne,h1,e,List.mem_append,List.mem_singleton]
   exact ⟨.inl,fun h=>h.resolve_right hs⟩
 ·rw [hs,e,List.nodup_append]
  by_cases hm:l.getD k default∈l.take k
  ·rw [if_pos ((h1 _).2 hm)]
   constructor
   ·intro hh;omega
   ·intro hh
    exact absurd rfl (hh.2.2 _ hm _ (by simp))
  ·rw [if_neg (fun hh=>hm ((h1 _).1 hh))]
   constructor
   ·intro hh
    refine ⟨h2.1 (by omega),by simp,fun a ha b hb e=>?_⟩
    simp at hb
    subst hb
    subst e
    exact hm ha
   ·intro hh
    have:=h2.2 hh.1
    omega
 ·rw [hs];split<;>omega
set_option maxRecDepth 100000 in
theorem Mt (w:World) (v:Value) (l:List ByteArray) (hr:Row w v (strs l)) (hb:∀ s∈l,s.size≤9223372036854775807) (hn:l.length≤1099511627776) :
  Calls Tryz.prog 89 #[v] w fun e w'=>e=.returned (.bool (decide (¬ l.Nodup)))∧w.grownBy w' none:=by
 have hmm:=@run_makeMap Tryz.prog
 have HR:=Ac hr
 obtain ⟨A,c,rfl,h1,h2,h3⟩:=hr
 rw [Bt] at *
 have HB:=Ac hb
 obtain ⟨R,hR⟩:∃ R,decide (¬ l.Nodup)=R:=⟨_,rfl⟩
 rw [hR]
 have HRR:=Ac hR
 clear hR hb
 have H3:=Ac h3
 clear h3
 go_enter Tryz.func89,Tryz.ntmps89
 go_wp2
 generalize hs:w.heap.size=s at *
 go_loopw [9] (fun i wr=>∃ (k:Nat) (D:DataW Unit),k≤l.length∧i=.int .i64 k∧wr.ownsMap Tryz.prog 9 (plainElem Tryz.prog 3) s k D∧Hid (Qe l k D)∧w.grownBy wr none) (fun i _=>l.length-(intOf i).toNat)
 case atStart=>exact ⟨0,_,Nat.zero_le _,rfl,by rw [←hs];exact World.ownsMap_made _ _ _ _,Ac (Te l),Af _ _ _⟩
 case round =>
  obtain ⟨k,D,hk,rfl,hown,hS,hg⟩:=hrel
  by_cases hlt:k<l.length
  ·have hcell:∃ b o,A=some ⟨b,o,none⟩∧wr.cell? ⟨b,o+k,none⟩=some (.string (l.getD k default)):=by
    rcases H3.out with ⟨h0,_⟩ | ⟨b,o,rfl,hc⟩
    ·have:=congrArg List.length h0;rw [Bt] at this;exact absurd (show l.length=0 from this) (by omega)
    ·exact ⟨b,o,rfl,Aj hg ((hc k hlt).trans (I2 l k hlt)) (by simp)⟩
   obtain ⟨b,o,rfl,hc⟩:=hcell
   have hsz:(l.getD k default).size≤maxLen:=by
    have:=HB.out (l.getD k default) (by simp [List.getD,List.getElem?_eq_getElem hlt])
    simpa [maxLen] using this
   have hkey:keyOf Tryz.prog 9 (.string (l.getD k default))=some (key (l.getD k default)):=WideMaps.keyOf_string_mk Tryz.underlying9 hsz
   have hstep:=fun d=>Tc hS.out hlt d
   have HST:=Ac hstep
   clear hstep
   generalize l.getD k default=x at *
   go_wp2_with (first
    | (at_lookup;refine wpList_lookup_own_int _ rfl _ _ 223 rfl 9 3 .i64 lawS Tryz.underlying223 Tryz.underlying3 (A1q _) s k _ rfl hown _ _ rfl hkey ?_;intro c hat hwc)
    | (at_mapUpdate;refine wpList_mapUpdate_own _ rfl _ _ _ 223 rfl 9 3 lawS Tryz.underlying223 _ s k _ rfl hown (by unfold maxLen;omega) _ _ _ rfl rfl hkey _ [] (plainElem_int Tryz.underlying3 (wrap64_wf _)) ?_;intro w1 hown1 hgrow1)
    | go_in)
   go_roundw
   case rel=>exact ⟨k+1,_,by omega,by go_num,hown1,Ac (HST.out _),Aw hg hgrow1 (by omega)⟩
   case measure=>simp [intOf];omega
  ·obtain rfl:k=l.length:=by omega
   have hsz:=hS.out
   have HSZ:=Ac hsz
   clear hsz
   go_wp2_with (first
    | (at_len;refine wpList_len_own _ rfl _ 223 rfl 9 3 Tryz.underlying223 _ s _ _ rfl hown ?_)
    | go_in)
   go_ret
   refine ⟨Ao ?_,hg⟩
   rw [←HRR.out]
   have:=HSZ.out.2.2.2.1
   rw [List.take_length] at this
   by_cases hnd:l.Nodup
   ·have:=this.2 hnd
    simp [hnd,this]
   ·have:¬ Maps.size D=l.length:=fun h=>hnd (this.1 h)
    simp [hnd]
    omega
end
end Go.Proofs.YtmfmfpmkgmkgiaaGreatDoor
