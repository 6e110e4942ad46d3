/- RefW RefX Step. -/
import Derived.Test.YtckbiimikeiejaaGreatDoorMar
import Derived.Deep.RegionHeld3
import Derived.Test.YtckbiimikeiejaaGreatDoorMah
import Derived.Test.YtckbiimikeiejaaGreatDoorMal
set_option linter.unusedVariables false
set_option linter.unusedSimpArgs false
set_option maxHeartbeats 40000000
namespace Go.Proofs.YtckbiimikeiejaaGreatDoor
section
open Go.RowKit Go.Maps
open Rat
def L16 (q:Rat) (k:Nat):Prop:=(d16 q.num).length≤k∧(d16 (q.den:Int)).length≤k
theorem L16.mono {q:Rat} {k l:Nat} (h:L16 q k) (hl:k≤l):L16 q l:=⟨Nat.le_trans h.1 hl,Nat.le_trans h.2 hl⟩
theorem Hl (x y:Int):(d16 (x*y)).length≤(d16 x).length+(d16 y).length:=by
 unfold d16
 rw [Int.natAbs_mul]
 refine (Bz 65536 (by omega) _ _).2 ?_
 rw [Nat.pow_add]
 exact Nat.mul_lt_mul'' ((Bz 65536 (by omega) _ _).1 (Nat.le_refl _)) ((Bz 65536 (by omega) _ _).1 (Nat.le_refl _))
theorem A0j {x y:Int} {k:Nat} (hx:(d16 x).length≤k) (hy:(d16 y).length≤k):(d16 (x+y)).length≤k+1:=by
 unfold d16 at *
 refine (Bz 65536 (by omega) _ _).2 ?_
 have h1:=(Bz 65536 (by omega) _ _).1 hx
 have h2:=(Bz 65536 (by omega) _ _).1 hy
 have h3:=Int.natAbs_add_le x y
 rw [Nat.pow_succ]
 omega
theorem L16.divInt {n d:Int} {k:Nat} (hd:d≠0) (hn:(d16 n).length≤k) (h:(d16 d).length≤k):L16 (n /. d) k :=
 ⟨by rw [Gr n d hd];exact Nat.le_trans (Ym (D7 _ _)) hn,by rw [Gq n d hd];exact Nat.le_trans (Ym (D7 _ _)) h⟩
theorem L16.mul {p q:Rat} {k:Nat} (hp:L16 p k) (hq:L16 q k):L16 (p*q) (2*k):=by
 rw [Kc]
 have h1:=Hl p.num q.num;have h2:=Hl (p.den:Int) (q.den:Int)
 have:=hp.1;have:=hp.2;have:=hq.1;have:=hq.2
 exact L16.divInt (by have:=p.den_pos;have:=q.den_pos;exact Int.mul_ne_zero (by omega) (by omega)) (by omega) (by omega)
theorem L16.add {p q:Rat} {k:Nat} (hp:L16 p k) (hq:L16 q k):L16 (p+q) (2*k+1):=by
 rw [If]
 have h1:=Hl p.num q.den;have h2:=Hl (p.den:Int) (q.den:Int);have h3:=Hl q.num p.den
 have:=hp.1;have:=hp.2;have:=hq.1;have:=hq.2
 exact L16.divInt (by have:=p.den_pos;have:=q.den_pos;exact Int.mul_ne_zero (by omega) (by omega)) (A0j (k:=2*k) (by omega) (by omega)) (by omega)
set_option maxRecDepth 100000 in
theorem R0 (w:World) (v1 v2:Value) (p q:Rat) (ha:FQ w v1 p) (hb:FQ w v2 q) (K:Nat) (lp:L16 p K) (lq:L16 q K) (hK:K≤500000000000) :
    Calls Tryz.prog 119 #[v1,v2] w fun e w'=>∃ v,e=.returned v∧FQ w' v (p*q)∧w.grownBy w' none:=by
  rw [Kc]
  obtain ⟨A1,c1,A2,c2,rfl,h1,h2⟩:=ha
  obtain ⟨A3,c3,A4,c4,rfl,h3,h4⟩:=hb
  have HPA:Hid (NZ w (.agg #[.bool (decide (p.num<0)),.slice A1 (d16 p.num).length c1]) p.num):=Ac ⟨_,rfl,h1⟩
  have HPB:Hid (NZ w (.agg #[.bool false,.slice A2 (d16 (p.den:Int)).length c2]) (p.den:Int)):=Ac (Ut h2)
  have HQA:Hid (NZ w (.agg #[.bool (decide (q.num<0)),.slice A3 (d16 q.num).length c3]) q.num):=Ac ⟨_,rfl,h3⟩
  have HQB:Hid (NZ w (.agg #[.bool false,.slice A4 (d16 (q.den:Int)).length c4]) (q.den:Int)):=Ac (Ut h4)
  have HLP:=Ac lp
  have HLQ:=Ac lq
  have HPD:Hid ((p.den:Int)≠0):=Ac (by have:=p.den_pos;omega)
  have HQD:Hid ((q.den:Int)≠0):=Ac (by have:=q.den_pos;omega)
  have HM1:=Ac (Hl p.num q.num)
  have HM2:=Ac (Hl (p.den:Int) (q.den:Int))
  have HM3:=Ac (Hl p.num (q.den:Int))
  have HM4:=Ac (Hl q.num (p.den:Int))
  have HM5:=Ac (Hl (p.den:Int) q.num)
  unfold L16 at HLP HLQ
  clear h1 h2 h3 h4 lp lq
  generalize p.num=a at *
  generalize (p.den:Int)=b at *
  generalize q.num=c at *
  generalize (q.den:Int)=d at *
  obtain ⟨R,hR⟩:∃ R,(a*c) /. (b*d)=R:=⟨_,rfl⟩
  rw [hR]
  have HRR:=Ac hR
  clear hR
  generalize hna:(d16 a).length=na at *
  generalize hnb:(d16 b).length=nb at *
  generalize hnc:(d16 c).length=nc at *
  generalize hnd:(d16 d).length=nd at *
  have HEA:=Ac hna
  have HEB:=Ac hnb
  have HEC:=Ac hnc
  have HED:=Ac hnd
  generalize decide (a<0)=sa at *
  generalize decide (c<0)=sc at *
  have g1:=Af w (.cells #[.bool sa,.slice A1 na c1,.bool false,.slice A2 nb c2] 143) none
  have g2:=Af (w.alloc (.cells #[.bool sa,.slice A1 na c1,.bool false,.slice A2 nb c2] 143)) (.cells #[.bool sc,.slice A3 nc c3,.bool false,.slice A4 nd c4] 143) none
  have g3:=Af ((w.alloc (.cells #[.bool sa,.slice A1 na c1,.bool false,.slice A2 nb c2] 143)).alloc (.cells #[.bool sc,.slice A3 nc c3,.bool false,.slice A4 nd c4] 143)) (.cells #[.bool false,.slice none 0 0,.bool false,.slice none 0 0] 143) none
  have hB1:=(Blk.new w #[.bool sa,.slice A1 na c1,.bool false,.slice A2 nb c2] 143).more (Ae g2 g3)
  have hB2:=(Blk.new (w.alloc (.cells #[.bool sa,.slice A1 na c1,.bool false,.slice A2 nb c2] 143)) #[.bool sc,.slice A3 nc c3,.bool false,.slice A4 nd c4] 143).more g3
  have hB3:=Blk.new ((w.alloc (.cells #[.bool sa,.slice A1 na c1,.bool false,.slice A2 nb c2] 143)).alloc (.cells #[.bool sc,.slice A3 nc c3,.bool false,.slice A4 nd c4] 143)) #[.bool false,.slice none 0 0,.bool false,.slice none 0 0] 143
  rw [World.size_alloc] at hB2 hB3
  rw [World.size_alloc] at hB3
  have HGW:=Ac (Ae g1 (Ae g2 g3))
  have HPA:=Ac (HPA.out.more HGW.out)
  have HPB:=Ac (HPB.out.more HGW.out)
  have HQA:=Ac (HQA.out.more HGW.out)
  have HQB:=Ac (HQB.out.more HGW.out)
  have HB1:=Ac hB1
  have HB2:=Ac hB2
  have HB3:=Ac hB3
  clear g1 g2 g3 hB1 hB2 hB3 hna hnb hnc hnd
  go_enter Tryz.func119,Tryz.ntmps119
  go_wp2_with fail
  generalize ((w.alloc (.cells #[.bool sa,.slice A1 na c1,.bool false,.slice A2 nb c2] 143)).alloc (.cells #[.bool sc,.slice A3 nc c3,.bool false,.slice A4 nd c4] 143)).alloc (.cells #[.bool false,.slice none 0 0,.bool false,.slice none 0 0] 143)=wa at *
  generalize hs:w.heap.size=s at *
  have HS:=Ac hs
  clear hs
  obtain ⟨x0,x1,x2,x3,_⟩:=HB1.out.four
  obtain ⟨y0,y1,y2,y3,_⟩:=HB2.out.four
  have HKK:=Ac (fun W (h:wa.grownBy W none)=>(⟨Aj h x0 (by simp),Aj h x1 (by simp),Aj h x2 (by simp),Aj h x3 (by simp),Aj h y0 (by simp),Aj h y1 (by simp),Aj h y2 (by simp),Aj h y3 (by simp)⟩:W.cell? ⟨s,0,none⟩=some (.bool sa)∧W.cell? ⟨s,1,none⟩=some (.slice A1 na c1)∧W.cell? ⟨s,2,none⟩=some (.bool false)∧W.cell? ⟨s,3,none⟩=some (.slice A2 nb c2)∧W.cell? ⟨s+1,0,none⟩=some (.bool sc)∧W.cell? ⟨s+1,1,none⟩=some (.slice A3 nc c3)∧W.cell? ⟨s+1,2,none⟩=some (.bool false)∧W.cell? ⟨s+1,3,none⟩=some (.slice A4 nd c4)))
  have ne1:s≠s+1+1:=by omega
  have ne2:s+1≠s+1+1:=by omega
  have ne3:s+1+1≠s:=by omega
  have ne4:s+1+1≠s+1:=by omega
  go_region_held3 (fun W=>W.cell? ⟨s,0,none⟩=some (.bool sa)∧W.cell? ⟨s,1,none⟩=some (.slice A1 na c1)∧W.cell? ⟨s,2,none⟩=some (.bool false)∧W.cell? ⟨s,3,none⟩=some (.slice A2 nb c2)∧W.cell? ⟨s+1,0,none⟩=some (.bool sc)∧W.cell? ⟨s+1,1,none⟩=some (.slice A3 nc c3)∧W.cell? ⟨s+1,2,none⟩=some (.bool false)∧W.cell? ⟨s+1,3,none⟩=some (.slice A4 nd c4)) (first | go_keep | exact HKK.out _ (by (focus ((repeat (first | assumption | exact Al _ _ | exact Ai _ _ | exact Af _ _ _ | refine Ae ?_ (Af _ _ _) | refine Ae ?_ (Ai _ _) | refine Ae ?_ (by assumption)));done))))
   (first
   | (go_at_call_of 146 (Value.agg #[.bool sa,.slice A1 na c1]);refine (Eg _ _ _ a c (HPA.out.more (by (focus ((repeat (first | assumption | exact Al _ _ | exact Ai _ _ | exact Af _ _ _ | refine Ae ?_ (Af _ _ _) | refine Ae ?_ (Ai _ _) | refine Ae ?_ (by assumption)));done)))) (HQA.out.more (by (focus ((repeat (first | assumption | exact Al _ _ | exact Ai _ _ | exact Af _ _ _ | refine Ae ?_ (Af _ _ _) | refine Ae ?_ (Ai _ _) | refine Ae ?_ (by assumption)));done)))) (by rw [HEA.out];have:=HLP.out.1;omega) (by rw [HEC.out];have:=HLQ.out.1;omega)).mono ?_;rintro e w2 ⟨v2,rfl,hv2,hg2⟩)
   | (go_at_call_of 146 (Value.agg #[.bool false,.slice A2 nb c2]);refine (Eg _ _ _ b d (HPB.out.more (by (focus ((repeat (first | assumption | exact Al _ _ | exact Ai _ _ | exact Af _ _ _ | refine Ae ?_ (Af _ _ _) | refine Ae ?_ (Ai _ _) | refine Ae ?_ (by assumption)));done)))) (HQB.out.more (by (focus ((repeat (first | assumption | exact Al _ _ | exact Ai _ _ | exact Af _ _ _ | refine Ae ?_ (Af _ _ _) | refine Ae ?_ (Ai _ _) | refine Ae ?_ (by assumption)));done)))) (by rw [HEB.out];have:=HLP.out.2;omega) (by rw [HED.out];have:=HLQ.out.2;omega)).mono ?_;rintro e w3 ⟨v3,rfl,hv3,hg3⟩)
   | (go_at_call 96;refine (Ow _ _ _ (a*c) (b*d) (hv2.more (by (focus ((repeat (first | assumption | exact Al _ _ | exact Ai _ _ | exact Af _ _ _ | refine Ae ?_ (Af _ _ _) | refine Ae ?_ (Ai _ _) | refine Ae ?_ (by assumption)));done)))) (hv3.more (by (focus ((repeat (first | assumption | exact Al _ _ | exact Ai _ _ | exact Af _ _ _ | refine Ae ?_ (Af _ _ _) | refine Ae ?_ (Ai _ _) | refine Ae ?_ (by assumption)));done)))) (Int.mul_ne_zero HPD.out HQD.out) (by have:=HM1.out;have:=HLP.out.1;have:=HLQ.out.1;omega) (by have:=HM2.out;have:=HLP.out.2;have:=HLQ.out.2;omega)).mono ?_;rintro e w4 ⟨v4,rfl,hv4,hg4⟩;rw [HRR.out] at hv4;obtain ⟨A5,c5,A6,c6,rfl,hd5,hd6⟩:=hv4;have HB4:=Ac (HB3.out.more (show wa.grownBy w4 none by (focus ((repeat (first | assumption | exact Al _ _ | exact Ai _ _ | exact Af _ _ _ | refine Ae ?_ (Af _ _ _) | refine Ae ?_ (Ai _ _) | refine Ae ?_ (by assumption)));done))));obtain ⟨z0,z1,z2,z3,f0,f1,f2,f3⟩:=HB4.out.four))
  all_goals
    go_wp2_with fail
    try simp only [Exit.inBlock,Exit.then]
    obtain ⟨w5,hw5⟩:∃ W,W=((((w4.setCell ⟨s+1+1,0,none⟩ (.bool (decide (R.num<0)))).setCell ⟨s+1+1,1,none⟩ (.slice A5 (d16 R.num).length c5)).setCell ⟨s+1+1,2,none⟩ (.bool false)).setCell ⟨s+1+1,3,none⟩ (.slice A6 (d16 (R.den:Int)).length c6)):=⟨_,rfl⟩
    rw [←hw5]
    have hB5:Blk w5 (s+1+1) #[.bool (decide (R.num<0)),.slice A5 (d16 R.num).length c5,.bool false,.slice A6 (d16 (R.den:Int)).length c6]:=by rw [hw5];exact (((HB4.out.set 0 _).set 1 _).set 2 _).set 3 _
    have hG5:w4.grownBy w5 (some (s+1+1)):=by rw [hw5];exact Jl _ _ _ _ _ _
    clear z0 z1 z2 z3 f0 f1 f2 f3 hw5
    obtain ⟨z0,z1,z2,z3,_⟩:=hB5.four
    refine bodyPost_ret (v:=.agg #[.bool (decide (R.num<0)),.slice A5 (d16 R.num).length c5,.bool false,.slice A6 (d16 (R.den:Int)).length c6]) (by simp [results,Tryz.results119,go_sem,z0,z1,z2,z3]) rfl ⟨_,rfl,⟨A5,c5,A6,c6,rfl,hd5.keep HB4.out (by simp) hG5,hd6.keep HB4.out (by simp) hG5⟩,Aw (Ae HGW.out (show wa.grownBy w4 none by (focus ((repeat (first | assumption | exact Al _ _ | exact Ai _ _ | exact Af _ _ _ | refine Ae ?_ (Af _ _ _) | refine Ae ?_ (Ai _ _) | refine Ae ?_ (by assumption)));done)))) hG5 (by have:=HS.out;omega)⟩
set_option maxRecDepth 100000 in
theorem A33 (w:World) (v1 v2:Value) (p q:Rat) (ha:FQ w v1 p) (hb:FQ w v2 q) (h0:q≠0) (K:Nat) (lp:L16 p K) (lq:L16 q K) (hK:K≤500000000000) :
    Calls Tryz.prog 191 #[v1,v2] w fun e w'=>∃ v,e=.returned v∧FQ w' v (p/q)∧w.grownBy w' none:=by
  rw [Ob]
  have HQN:Hid (q.num≠0):=Ac fun h=>h0 (Rat.num_eq_zero.1 h)
  clear h0
  obtain ⟨A1,c1,A2,c2,rfl,h1,h2⟩:=ha
  obtain ⟨A3,c3,A4,c4,rfl,h3,h4⟩:=hb
  have HPA:Hid (NZ w (.agg #[.bool (decide (p.num<0)),.slice A1 (d16 p.num).length c1]) p.num):=Ac ⟨_,rfl,h1⟩
  have HPB:Hid (NZ w (.agg #[.bool false,.slice A2 (d16 (p.den:Int)).length c2]) (p.den:Int)):=Ac (Ut h2)
  have HQA:Hid (NZ w (.agg #[.bool (decide (q.num<0)),.slice A3 (d16 q.num).length c3]) q.num):=Ac ⟨_,rfl,h3⟩
  have HQB:Hid (NZ w (.agg #[.bool false,.slice A4 (d16 (q.den:Int)).length c4]) (q.den:Int)):=Ac (Ut h4)
  have HLP:=Ac lp
  have HLQ:=Ac lq
  have HPD:Hid ((p.den:Int)≠0):=Ac (by have:=p.den_pos;omega)
  have HQD:Hid ((q.den:Int)≠0):=Ac (by have:=q.den_pos;omega)
  have HM1:=Ac (Hl p.num q.num)
  have HM2:=Ac (Hl (p.den:Int) (q.den:Int))
  have HM3:=Ac (Hl p.num (q.den:Int))
  have HM4:=Ac (Hl q.num (p.den:Int))
  have HM5:=Ac (Hl (p.den:Int) q.num)
  unfold L16 at HLP HLQ
  clear h1 h2 h3 h4 lp lq
  generalize p.num=a at *
  generalize (p.den:Int)=b at *
  generalize q.num=c at *
  generalize (q.den:Int)=d at *
  obtain ⟨R,hR⟩:∃ R,(a*d) /. (b*c)=R:=⟨_,rfl⟩
  rw [hR]
  have HRR:=Ac hR
  clear hR
  generalize hna:(d16 a).length=na at *
  generalize hnb:(d16 b).length=nb at *
  generalize hnc:(d16 c).length=nc at *
  generalize hnd:(d16 d).length=nd at *
  have HEA:=Ac hna
  have HEB:=Ac hnb
  have HEC:=Ac hnc
  have HED:=Ac hnd
  generalize decide (a<0)=sa at *
  generalize decide (c<0)=sc at *
  have g1:=Af w (.cells #[.bool sa,.slice A1 na c1,.bool false,.slice A2 nb c2] 143) none
  have g2:=Af (w.alloc (.cells #[.bool sa,.slice A1 na c1,.bool false,.slice A2 nb c2] 143)) (.cells #[.bool sc,.slice A3 nc c3,.bool false,.slice A4 nd c4] 143) none
  have g3:=Af ((w.alloc (.cells #[.bool sa,.slice A1 na c1,.bool false,.slice A2 nb c2] 143)).alloc (.cells #[.bool sc,.slice A3 nc c3,.bool false,.slice A4 nd c4] 143)) (.cells #[.bool false,.slice none 0 0,.bool false,.slice none 0 0] 143) none
  have hB1:=(Blk.new w #[.bool sa,.slice A1 na c1,.bool false,.slice A2 nb c2] 143).more (Ae g2 g3)
  have hB2:=(Blk.new (w.alloc (.cells #[.bool sa,.slice A1 na c1,.bool false,.slice A2 nb c2] 143)) #[.bool sc,.slice A3 nc c3,.bool false,.slice A4 nd c4] 143).more g3
  have hB3:=Blk.new ((w.alloc (.cells #[.bool sa,.slice A1 na c1,.bool false,.slice A2 nb c2] 143)).alloc (.cells #[.bool sc,.slice A3 nc c3,.bool false,.slice A4 nd c4] 143)) #[.bool false,.slice none 0 0,.bool false,.slice none 0 0] 143
  rw [World.size_alloc] at hB2 hB3
  rw [World.size_alloc] at hB3
  have HGW:=Ac (Ae g1 (Ae g2 g3))
  have HPA:=Ac (HPA.out.more HGW.out)
  have HPB:=Ac (HPB.out.more HGW.out)
  have HQA:=Ac (HQA.out.more HGW.out)
  have HQB:=Ac (HQB.out.more HGW.out)
  have HB1:=Ac hB1
  have HB2:=Ac hB2
  have HB3:=Ac hB3
  clear g1 g2 g3 hB1 hB2 hB3 hna hnb hnc hnd
  go_enter Tryz.func191,Tryz.ntmps191
  go_wp2_with fail
  generalize ((w.alloc (.cells #[.bool sa,.slice A1 na c1,.bool false,.slice A2 nb c2] 143)).alloc (.cells #[.bool sc,.slice A3 nc c3,.bool false,.slice A4 nd c4] 143)).alloc (.cells #[.bool false,.slice none 0 0,.bool false,.slice none 0 0] 143)=wa at *
  generalize hs:w.heap.size=s at *
  have HS:=Ac hs
  clear hs
  obtain ⟨x0,x1,x2,x3,_⟩:=HB1.out.four
  obtain ⟨y0,y1,y2,y3,_⟩:=HB2.out.four
  have HKK:=Ac (fun W (h:wa.grownBy W none)=>(⟨Aj h x0 (by simp),Aj h x1 (by simp),Aj h x2 (by simp),Aj h x3 (by simp),Aj h y0 (by simp),Aj h y1 (by simp),Aj h y2 (by simp),Aj h y3 (by simp)⟩:W.cell? ⟨s,0,none⟩=some (.bool sa)∧W.cell? ⟨s,1,none⟩=some (.slice A1 na c1)∧W.cell? ⟨s,2,none⟩=some (.bool false)∧W.cell? ⟨s,3,none⟩=some (.slice A2 nb c2)∧W.cell? ⟨s+1,0,none⟩=some (.bool sc)∧W.cell? ⟨s+1,1,none⟩=some (.slice A3 nc c3)∧W.cell? ⟨s+1,2,none⟩=some (.bool false)∧W.cell? ⟨s+1,3,none⟩=some (.slice A4 nd c4)))
  have ne1:s≠s+1+1:=by omega
  have ne2:s+1≠s+1+1:=by omega
  have ne3:s+1+1≠s:=by omega
  have ne4:s+1+1≠s+1:=by omega
  go_region_held3 (fun W=>W.cell? ⟨s,0,none⟩=some (.bool sa)∧W.cell? ⟨s,1,none⟩=some (.slice A1 na c1)∧W.cell? ⟨s,2,none⟩=some (.bool false)∧W.cell? ⟨s,3,none⟩=some (.slice A2 nb c2)∧W.cell? ⟨s+1,0,none⟩=some (.bool sc)∧W.cell? ⟨s+1,1,none⟩=some (.slice A3 nc c3)∧W.cell? ⟨s+1,2,none⟩=some (.bool false)∧W.cell? ⟨s+1,3,none⟩=some (.slice A4 nd c4)) (first | go_keep | exact HKK.out _ (by (focus ((repeat (first | assumption | exact Al _ _ | exact Ai _ _ | exact Af _ _ _ | refine Ae ?_ (Af _ _ _) | refine Ae ?_ (Ai _ _) | refine Ae ?_ (by assumption)));done))))
   (first
   | (go_at_call_of 146 (Value.agg #[.bool sa,.slice A1 na c1]);refine (Eg _ _ _ a d (HPA.out.more (by (focus ((repeat (first | assumption | exact Al _ _ | exact Ai _ _ | exact Af _ _ _ | refine Ae ?_ (Af _ _ _) | refine Ae ?_ (Ai _ _) | refine Ae ?_ (by assumption)));done)))) (HQB.out.more (by (focus ((repeat (first | assumption | exact Al _ _ | exact Ai _ _ | exact Af _ _ _ | refine Ae ?_ (Af _ _ _) | refine Ae ?_ (Ai _ _) | refine Ae ?_ (by assumption)));done)))) (by rw [HEA.out];have:=HLP.out.1;omega) (by rw [HED.out];have:=HLQ.out.2;omega)).mono ?_;rintro e w2 ⟨v2,rfl,hv2,hg2⟩)
   | (go_at_call_of 146 (Value.agg #[.bool false,.slice A2 nb c2]);refine (Eg _ _ _ b c (HPB.out.more (by (focus ((repeat (first | assumption | exact Al _ _ | exact Ai _ _ | exact Af _ _ _ | refine Ae ?_ (Af _ _ _) | refine Ae ?_ (Ai _ _) | refine Ae ?_ (by assumption)));done)))) (HQA.out.more (by (focus ((repeat (first | assumption | exact Al _ _ | exact Ai _ _ | exact Af _ _ _ | refine Ae ?_ (Af _ _ _) | refine Ae ?_ (Ai _ _) | refine Ae ?_ (by assumption)));done)))) (by rw [HEB.out];have:=HLP.out.2;omega) (by rw [HEC.out];have:=HLQ.out.1;omega)).mono ?_;rintro e w3 ⟨v3,rfl,hv3,hg3⟩)
   | (go_at_call 96;refine (Ow _ _ _ (a*d) (b*c) (hv2.more (by (focus ((repeat (first | assumption | exact Al _ _ | exact Ai _ _ | exact Af _ _ _ | refine Ae ?_ (Af _ _ _) | refine Ae ?_ (Ai _ _) | refine Ae ?_ (by assumption)));done)))) (hv3.more (by (focus ((repeat (first | assumption | exact Al _ _ | exact Ai _ _ | exact Af _ _ _ | refine Ae ?_ (Af _ _ _) | refine Ae ?_ (Ai _ _) | refine Ae ?_ (by assumption)));done)))) (Int.mul_ne_zero HPD.out HQN.out) (by have:=HM3.out;have:=HLP.out.1;have:=HLQ.out.2;omega) (by have:=HM5.out;have:=HLP.out.2;have:=HLQ.out.1;omega)).mono ?_;rintro e w4 ⟨v4,rfl,hv4,hg4⟩;rw [HRR.out] at hv4;obtain ⟨A5,c5,A6,c6,rfl,hd5,hd6⟩:=hv4;have HB4:=Ac (HB3.out.more (show wa.grownBy w4 none by (focus ((repeat (first | assumption | exact Al _ _ | exact Ai _ _ | exact Af _ _ _ | refine Ae ?_ (Af _ _ _) | refine Ae ?_ (Ai _ _) | refine Ae ?_ (by assumption)));done))));obtain ⟨z0,z1,z2,z3,f0,f1,f2,f3⟩:=HB4.out.four))
  all_goals
    go_wp2_with fail
    try simp only [Exit.inBlock,Exit.then]
    obtain ⟨w5,hw5⟩:∃ W,W=((((w4.setCell ⟨s+1+1,0,none⟩ (.bool (decide (R.num<0)))).setCell ⟨s+1+1,1,none⟩ (.slice A5 (d16 R.num).length c5)).setCell ⟨s+1+1,2,none⟩ (.bool false)).setCell ⟨s+1+1,3,none⟩ (.slice A6 (d16 (R.den:Int)).length c6)):=⟨_,rfl⟩
    rw [←hw5]
    have hB5:Blk w5 (s+1+1) #[.bool (decide (R.num<0)),.slice A5 (d16 R.num).length c5,.bool false,.slice A6 (d16 (R.den:Int)).length c6]:=by rw [hw5];exact (((HB4.out.set 0 _).set 1 _).set 2 _).set 3 _
    have hG5:w4.grownBy w5 (some (s+1+1)):=by rw [hw5];exact Jl _ _ _ _ _ _
    clear z0 z1 z2 z3 f0 f1 f2 f3 hw5
    obtain ⟨z0,z1,z2,z3,_⟩:=hB5.four
    refine bodyPost_ret (v:=.agg #[.bool (decide (R.num<0)),.slice A5 (d16 R.num).length c5,.bool false,.slice A6 (d16 (R.den:Int)).length c6]) (by simp [results,Tryz.results191,go_sem,z0,z1,z2,z3]) rfl ⟨_,rfl,⟨A5,c5,A6,c6,rfl,hd5.keep HB4.out (by simp) hG5,hd6.keep HB4.out (by simp) hG5⟩,Aw (Ae HGW.out (show wa.grownBy w4 none by (focus ((repeat (first | assumption | exact Al _ _ | exact Ai _ _ | exact Af _ _ _ | refine Ae ?_ (Af _ _ _) | refine Ae ?_ (Ai _ _) | refine Ae ?_ (by assumption)));done)))) hG5 (by have:=HS.out;omega)⟩
set_option maxRecDepth 100000 in
theorem A28 (w:World) (v1 v2:Value) (p q:Rat) (ha:FQ w v1 p) (hb:FQ w v2 q) (K:Nat) (lp:L16 p K) (lq:L16 q K) (hK:K≤500000000000) :
    Calls Tryz.prog 98 #[v1,v2] w fun e w'=>∃ v,e=.returned v∧FQ w' v (p+q)∧w.grownBy w' none:=by
  rw [If]
  obtain ⟨A1,c1,A2,c2,rfl,h1,h2⟩:=ha
  obtain ⟨A3,c3,A4,c4,rfl,h3,h4⟩:=hb
  have HPA:Hid (NZ w (.agg #[.bool (decide (p.num<0)),.slice A1 (d16 p.num).length c1]) p.num):=Ac ⟨_,rfl,h1⟩
  have HPB:Hid (NZ w (.agg #[.bool false,.slice A2 (d16 (p.den:Int)).length c2]) (p.den:Int)):=Ac (Ut h2)
  have HQA:Hid (NZ w (.agg #[.bool (decide (q.num<0)),.slice A3 (d16 q.num).length c3]) q.num):=Ac ⟨_,rfl,h3⟩
  have HQB:Hid (NZ w (.agg #[.bool false,.slice A4 (d16 (q.den:Int)).length c4]) (q.den:Int)):=Ac (Ut h4)
  have HLP:=Ac lp
  have HLQ:=Ac lq
  have HPD:Hid ((p.den:Int)≠0):=Ac (by have:=p.den_pos;omega)
  have HQD:Hid ((q.den:Int)≠0):=Ac (by have:=q.den_pos;omega)
  have HM1:=Ac (Hl p.num q.num)
  have HM2:=Ac (Hl (p.den:Int) (q.den:Int))
  have HM3:=Ac (Hl p.num (q.den:Int))
  have HM4:=Ac (Hl q.num (p.den:Int))
  have HM5:=Ac (Hl (p.den:Int) q.num)
  unfold L16 at HLP HLQ
  clear h1 h2 h3 h4 lp lq
  generalize p.num=a at *
  generalize (p.den:Int)=b at *
  generalize q.num=c at *
  generalize (q.den:Int)=d at *
  obtain ⟨R,hR⟩:∃ R,(a*d+c*b) /. (b*d)=R:=⟨_,rfl⟩
  rw [hR]
  have HRR:=Ac hR
  clear hR
  generalize hna:(d16 a).length=na at *
  generalize hnb:(d16 b).length=nb at *
  generalize hnc:(d16 c).length=nc at *
  generalize hnd:(d16 d).length=nd at *
  have HEA:=Ac hna
  have HEB:=Ac hnb
  have HEC:=Ac hnc
  have HED:=Ac hnd
  generalize decide (a<0)=sa at *
  generalize decide (c<0)=sc at *
  have g1:=Af w (.cells #[.bool sa,.slice A1 na c1,.bool false,.slice A2 nb c2] 143) none
  have g2:=Af (w.alloc (.cells #[.bool sa,.slice A1 na c1,.bool false,.slice A2 nb c2] 143)) (.cells #[.bool sc,.slice A3 nc c3,.bool false,.slice A4 nd c4] 143) none
  have g3:=Af ((w.alloc (.cells #[.bool sa,.slice A1 na c1,.bool false,.slice A2 nb c2] 143)).alloc (.cells #[.bool sc,.slice A3 nc c3,.bool false,.slice A4 nd c4] 143)) (.cells #[.bool false,.slice none 0 0,.bool false,.slice none 0 0] 143) none
  have hB1:=(Blk.new w #[.bool sa,.slice A1 na c1,.bool false,.slice A2 nb c2] 143).more (Ae g2 g3)
  have hB2:=(Blk.new (w.alloc (.cells #[.bool sa,.slice A1 na c1,.bool false,.slice A2 nb c2] 143)) #[.bool sc,.slice A3 nc c3,.bool false,.slice A4 nd c4] 143).more g3
  have hB3:=Blk.new ((w.alloc (.cells #[.bool sa,.slice A1 na c1,.bool false,.slice A2 nb c2] 143)).alloc (.cells #[.bool sc,.slice A3 nc c3,.bool false,.slice A4 nd c4] 143)) #[.bool false,.slice none 0 0,.bool false,.slice none 0 0] 143
  rw [World.size_alloc] at hB2 hB3
  rw [World.size_alloc] at hB3
  have HGW:=Ac (Ae g1 (Ae g2 g3))
  have HPA:=Ac (HPA.out.more HGW.out)
  have HPB:=Ac (HPB.out.more HGW.out)
  have HQA:=Ac (HQA.out.more HGW.out)
  have HQB:=Ac (HQB.out.more HGW.out)
  have HB1:=Ac hB1
  have HB2:=Ac hB2
  have HB3:=Ac hB3
  clear g1 g2 g3 hB1 hB2 hB3 hna hnb hnc hnd
  go_enter Tryz.func98,Tryz.ntmps98
  go_wp2_with fail
  generalize ((w.alloc (.cells #[.bool sa,.slice A1 na c1,.bool false,.slice A2 nb c2] 143)).alloc (.cells #[.bool sc,.slice A3 nc c3,.bool false,.slice A4 nd c4] 143)).alloc (.cells #[.bool false,.slice none 0 0,.bool false,.slice none 0 0] 143)=wa at *
  generalize hs:w.heap.size=s at *
  have HS:=Ac hs
  clear hs
  obtain ⟨x0,x1,x2,x3,_⟩:=HB1.out.four
  obtain ⟨y0,y1,y2,y3,_⟩:=HB2.out.four
  have HKK:=Ac (fun W (h:wa.grownBy W none)=>(⟨Aj h x0 (by simp),Aj h x1 (by simp),Aj h x2 (by simp),Aj h x3 (by simp),Aj h y0 (by simp),Aj h y1 (by simp),Aj h y2 (by simp),Aj h y3 (by simp)⟩:W.cell? ⟨s,0,none⟩=some (.bool sa)∧W.cell? ⟨s,1,none⟩=some (.slice A1 na c1)∧W.cell? ⟨s,2,none⟩=some (.bool false)∧W.cell? ⟨s,3,none⟩=some (.slice A2 nb c2)∧W.cell? ⟨s+1,0,none⟩=some (.bool sc)∧W.cell? ⟨s+1,1,none⟩=some (.slice A3 nc c3)∧W.cell? ⟨s+1,2,none⟩=some (.bool false)∧W.cell? ⟨s+1,3,none⟩=some (.slice A4 nd c4)))
  have ne1:s≠s+1+1:=by omega
  have ne2:s+1≠s+1+1:=by omega
  have ne3:s+1+1≠s:=by omega
  have ne4:s+1+1≠s+1:=by omega
  go_region_held3 (fun W=>W.cell? ⟨s,0,none⟩=some (.bool sa)∧W.cell? ⟨s,1,none⟩=some (.slice A1 na c1)∧W.cell? ⟨s,2,none⟩=some (.bool false)∧W.cell? ⟨s,3,none⟩=some (.slice A2 nb c2)∧W.cell? ⟨s+1,0,none⟩=some (.bool sc)∧W.cell? ⟨s+1,1,none⟩=some (.slice A3 nc c3)∧W.cell? ⟨s+1,2,none⟩=some (.bool false)∧W.cell? ⟨s+1,3,none⟩=some (.slice A4 nd c4)) (first | go_keep | exact HKK.out _ (by (focus ((repeat (first | assumption | exact Al _ _ | exact Ai _ _ | exact Af _ _ _ | refine Ae ?_ (Af _ _ _) | refine Ae ?_ (Ai _ _) | refine Ae ?_ (by assumption)));done))))
   (first
   | (go_at_call_of 146 (Value.agg #[.bool sa,.slice A1 na c1]);refine (Eg _ _ _ a d (HPA.out.more (by (focus ((repeat (first | assumption | exact Al _ _ | exact Ai _ _ | exact Af _ _ _ | refine Ae ?_ (Af _ _ _) | refine Ae ?_ (Ai _ _) | refine Ae ?_ (by assumption)));done)))) (HQB.out.more (by (focus ((repeat (first | assumption | exact Al _ _ | exact Ai _ _ | exact Af _ _ _ | refine Ae ?_ (Af _ _ _) | refine Ae ?_ (Ai _ _) | refine Ae ?_ (by assumption)));done)))) (by rw [HEA.out];have:=HLP.out.1;omega) (by rw [HED.out];have:=HLQ.out.2;omega)).mono ?_;rintro e w2 ⟨v2,rfl,hv2,hg2⟩)
   | (go_at_call_of 146 (Value.agg #[.bool sc,.slice A3 nc c3]);refine (Eg _ _ _ c b (HQA.out.more (by (focus ((repeat (first | assumption | exact Al _ _ | exact Ai _ _ | exact Af _ _ _ | refine Ae ?_ (Af _ _ _) | refine Ae ?_ (Ai _ _) | refine Ae ?_ (by assumption)));done)))) (HPB.out.more (by (focus ((repeat (first | assumption | exact Al _ _ | exact Ai _ _ | exact Af _ _ _ | refine Ae ?_ (Af _ _ _) | refine Ae ?_ (Ai _ _) | refine Ae ?_ (by assumption)));done)))) (by rw [HEC.out];have:=HLQ.out.1;omega) (by rw [HEB.out];have:=HLP.out.2;omega)).mono ?_;rintro e w6 ⟨vc,rfl,hvc,hg6⟩)
   | (go_at_call 159;refine (Rl _ _ _ (a*d) (c*b) (hv2.more (by (focus ((repeat (first | assumption | exact Al _ _ | exact Ai _ _ | exact Af _ _ _ | refine Ae ?_ (Af _ _ _) | refine Ae ?_ (Ai _ _) | refine Ae ?_ (by assumption)));done)))) (hvc.more (by (focus ((repeat (first | assumption | exact Al _ _ | exact Ai _ _ | exact Af _ _ _ | refine Ae ?_ (Af _ _ _) | refine Ae ?_ (Ai _ _) | refine Ae ?_ (by assumption)));done)))) (by have:=HM3.out;have:=HLP.out.1;have:=HLQ.out.2;omega) (by have:=HM4.out;have:=HLP.out.2;have:=HLQ.out.1;omega)).mono ?_;rintro e w7 ⟨vp,rfl,hvp,hg7⟩)
   | (go_at_call_of 146 (Value.agg #[.bool false,.slice A2 nb c2]);refine (Eg _ _ _ b d (HPB.out.more (by (focus ((repeat (first | assumption | exact Al _ _ | exact Ai _ _ | exact Af _ _ _ | refine Ae ?_ (Af _ _ _) | refine Ae ?_ (Ai _ _) | refine Ae ?_ (by assumption)));done)))) (HQB.out.more (by (focus ((repeat (first | assumption | exact Al _ _ | exact Ai _ _ | exact Af _ _ _ | refine Ae ?_ (Af _ _ _) | refine Ae ?_ (Ai _ _) | refine Ae ?_ (by assumption)));done)))) (by rw [HEB.out];have:=HLP.out.2;omega) (by rw [HED.out];have:=HLQ.out.2;omega)).mono ?_;rintro e w3 ⟨v3,rfl,hv3,hg3⟩)
   | (go_at_call 96;refine (Ow _ _ _ (a*d+c*b) (b*d) (hvp.more (by (focus ((repeat (first | assumption | exact Al _ _ | exact Ai _ _ | exact Af _ _ _ | refine Ae ?_ (Af _ _ _) | refine Ae ?_ (Ai _ _) | refine Ae ?_ (by assumption)));done)))) (hv3.more (by (focus ((repeat (first | assumption | exact Al _ _ | exact Ai _ _ | exact Af _ _ _ | refine Ae ?_ (Af _ _ _) | refine Ae ?_ (Ai _ _) | refine Ae ?_ (by assumption)));done)))) (Int.mul_ne_zero HPD.out HQD.out) (by have:=A0j (x:=a*d) (y:=c*b) (k:=1000000000000) (by have:=HM3.out;have:=HLP.out.1;have:=HLQ.out.2;omega) (by have:=HM4.out;have:=HLP.out.2;have:=HLQ.out.1;omega);omega) (by have:=HM2.out;have:=HLP.out.2;have:=HLQ.out.2;omega)).mono ?_;rintro e w4 ⟨v4,rfl,hv4,hg4⟩;rw [HRR.out] at hv4;obtain ⟨A5,c5,A6,c6,rfl,hd5,hd6⟩:=hv4;have HB4:=Ac (HB3.out.more (show wa.grownBy w4 none by (focus ((repeat (first | assumption | exact Al _ _ | exact Ai _ _ | exact Af _ _ _ | refine Ae ?_ (Af _ _ _) | refine Ae ?_ (Ai _ _) | refine Ae ?_ (by assumption)));done))));obtain ⟨z0,z1,z2,z3,f0,f1,f2,f3⟩:=HB4.out.four))
  all_goals
    go_wp2_with fail
    try simp only [Exit.inBlock,Exit.then]
    obtain ⟨w5,hw5⟩:∃ W,W=((((w4.setCell ⟨s+1+1,0,none⟩ (.bool (decide (R.num<0)))).setCell ⟨s+1+1,1,none⟩ (.slice A5 (d16 R.num).length c5)).setCell ⟨s+1+1,2,none⟩ (.bool false)).setCell ⟨s+1+1,3,none⟩ (.slice A6 (d16 (R.den:Int)).length c6)):=⟨_,rfl⟩
    rw [←hw5]
    have hB5:Blk w5 (s+1+1) #[.bool (decide (R.num<0)),.slice A5 (d16 R.num).length c5,.bool false,.slice A6 (d16 (R.den:Int)).length c6]:=by rw [hw5];exact (((HB4.out.set 0 _).set 1 _).set 2 _).set 3 _
    have hG5:w4.grownBy w5 (some (s+1+1)):=by rw [hw5];exact Jl _ _ _ _ _ _
    clear z0 z1 z2 z3 f0 f1 f2 f3 hw5
    obtain ⟨z0,z1,z2,z3,_⟩:=hB5.four
    refine bodyPost_ret (v:=.agg #[.bool (decide (R.num<0)),.slice A5 (d16 R.num).length c5,.bool false,.slice A6 (d16 (R.den:Int)).length c6]) (by simp [results,Tryz.results98,go_sem,z0,z1,z2,z3]) rfl ⟨_,rfl,⟨A5,c5,A6,c6,rfl,hd5.keep HB4.out (by simp) hG5,hd6.keep HB4.out (by simp) hG5⟩,Aw (Ae HGW.out (show wa.grownBy w4 none by (focus ((repeat (first | assumption | exact Al _ _ | exact Ai _ _ | exact Af _ _ _ | refine Ae ?_ (Af _ _ _) | refine Ae ?_ (Ai _ _) | refine Ae ?_ (by assumption)));done)))) hG5 (by have:=HS.out;omega)⟩
end
section
open Go.RowKit Go.Maps
open Rat
theorem Wk (p q:Rat):(if p.num*(q.den:Int)-q.num*(p.den:Int)=0 then (0:Int) else if p.num*(q.den:Int)-q.num*(p.den:Int)<0 then -1 else 1)=cmpQ p q:=by
 unfold cmpQ
 have h1:p<q↔p.num*(q.den:Int)<q.num*(p.den:Int):=Rat.lt_iff p q
 have h2:q<p↔q.num*(p.den:Int)<p.num*(q.den:Int):=Rat.lt_iff q p
 by_cases a:p<q
 ·have:=h1.1 a
  rw [if_pos a,if_neg (by omega),if_pos (by omega)]
 ·rw [if_neg a]
  have ha:¬ p.num*(q.den:Int)<q.num*(p.den:Int):=fun h=>a (h1.2 h)
  by_cases b:p=q
  ·subst b;simp
  ·have:¬ p.num*(q.den:Int)=q.num*(p.den:Int):=fun h=>b (Rat.le_antisymm (Rat.not_lt.1 fun h'=>by have:=h2.1 h';omega) (Rat.not_lt.1 a))
   rw [if_neg b,if_neg (by omega),if_neg (by omega)]
theorem FQ.form {w:World} {v:Value} {q:Rat} (h:FQ w v q):∃ A c A' c',v=.agg #[.bool (decide (q.num<0)),.slice A (d16 q.num).length c,.bool false,.slice A' (d16 (q.den:Int)).length c']∧NZ w (.agg #[.bool (decide (q.num<0)),.slice A (d16 q.num).length c]) q.num∧NZ w (.agg #[.bool false,.slice A' (d16 (q.den:Int)).length c']) (q.den:Int):=by
 obtain ⟨A,c,A',c',rfl,h1,h2⟩:=h
 exact ⟨A,c,A',c',rfl,⟨_,rfl,h1⟩,Ut h2⟩
set_option maxRecDepth 100000 in
theorem Rg (w:World) (v1 v2:Value) (p q:Rat) (ha:FQ w v1 p) (hb:FQ w v2 q) (K:Nat) (lp:L16 p K) (lq:L16 q K) (hK:K≤500000000000) :
    Calls Tryz.prog 129 #[v1,v2] w fun e w'=>e=.returned (.int .i64 (cmpQ p q))∧w.grownBy w' none:=by
  rw [←Wk p q]
  obtain ⟨A1,c1,A2,c2,rfl,h1,h2⟩:=ha.form
  obtain ⟨A3,c3,A4,c4,rfl,h3,h4⟩:=hb.form
  have g1:=Af w (.cells #[.bool (decide (p.num<0)),.slice A1 (d16 p.num).length c1,.bool false,.slice A2 (d16 (p.den:Int)).length c2] 143) none
  have HGW:=Ac (Ae g1 (Af _ (.cells #[.bool (decide (q.num<0)),.slice A3 (d16 q.num).length c3,.bool false,.slice A4 (d16 (q.den:Int)).length c4] 143) none))
  have hB1:=(Blk.new w #[.bool (decide (p.num<0)),.slice A1 (d16 p.num).length c1,.bool false,.slice A2 (d16 (p.den:Int)).length c2] 143).more (Af _ (.cells #[.bool (decide (q.num<0)),.slice A3 (d16 q.num).length c3,.bool false,.slice A4 (d16 (q.den:Int)).length c4] 143) none)
  have hB2:=Blk.new (w.alloc (.cells #[.bool (decide (p.num<0)),.slice A1 (d16 p.num).length c1,.bool false,.slice A2 (d16 (p.den:Int)).length c2] 143)) #[.bool (decide (q.num<0)),.slice A3 (d16 q.num).length c3,.bool false,.slice A4 (d16 (q.den:Int)).length c4] 143
  rw [World.size_alloc] at hB2
  have HPA:=Ac (h1.more HGW.out)
  have HPB:=Ac (h2.more HGW.out)
  have HQA:=Ac (h3.more HGW.out)
  have HQB:=Ac (h4.more HGW.out)
  have HLP:=Ac lp
  have HLQ:=Ac lq
  have HM3:=Ac (Hl p.num (q.den:Int))
  have HM4:=Ac (Hl q.num (p.den:Int))
  unfold L16 at HLP HLQ
  clear h1 h2 h3 h4 lp lq ha hb g1
  generalize p.num=a at *
  generalize (p.den:Int)=b at *
  generalize q.num=c at *
  generalize (q.den:Int)=d at *
  obtain ⟨R,hR⟩:∃ R:Int,(if a*d-c*b=0 then (0:Int) else if a*d-c*b<0 then -1 else 1)=R:=⟨_,rfl⟩
  rw [hR]
  have HRR:=Ac hR
  clear hR
  generalize hna:(d16 a).length=na at *
  generalize hnb:(d16 b).length=nb at *
  generalize hnc:(d16 c).length=nc at *
  generalize hnd:(d16 d).length=nd at *
  have HEA:=Ac hna
  have HEB:=Ac hnb
  have HEC:=Ac hnc
  have HED:=Ac hnd
  generalize decide (a<0)=sa at *
  generalize decide (c<0)=sc at *
  clear hna hnb hnc hnd
  obtain ⟨x0,x1,x2,x3,_⟩:=hB1.four
  obtain ⟨y0,y1,y2,y3,_⟩:=hB2.four
  clear hB1 hB2
  go_enter Tryz.func129,Tryz.ntmps129
  go_wp2_with fail
  generalize (w.alloc (.cells #[.bool sa,.slice A1 na c1,.bool false,.slice A2 nb c2] 143)).alloc (.cells #[.bool sc,.slice A3 nc c3,.bool false,.slice A4 nd c4] 143)=wa at *
  generalize w.heap.size=s at *
  have HKK:=Ac (fun W (h:wa.grownBy W none)=>(⟨Aj h x0 (by simp),Aj h x1 (by simp),Aj h x2 (by simp),Aj h x3 (by simp),Aj h y0 (by simp),Aj h y1 (by simp),Aj h y2 (by simp),Aj h y3 (by simp)⟩:W.cell? ⟨s,0,none⟩=some (.bool sa)∧W.cell? ⟨s,1,none⟩=some (.slice A1 na c1)∧W.cell? ⟨s,2,none⟩=some (.bool false)∧W.cell? ⟨s,3,none⟩=some (.slice A2 nb c2)∧W.cell? ⟨s+1,0,none⟩=some (.bool sc)∧W.cell? ⟨s+1,1,none⟩=some (.slice A3 nc c3)∧W.cell? ⟨s+1,2,none⟩=some (.bool false)∧W.cell? ⟨s+1,3,none⟩=some (.slice A4 nd c4)))
  go_region_held3 (fun W=>W.cell? ⟨s,0,none⟩=some (.bool sa)∧W.cell? ⟨s,1,none⟩=some (.slice A1 na c1)∧W.cell? ⟨s,2,none⟩=some (.bool false)∧W.cell? ⟨s,3,none⟩=some (.slice A2 nb c2)∧W.cell? ⟨s+1,0,none⟩=some (.bool sc)∧W.cell? ⟨s+1,1,none⟩=some (.slice A3 nc c3)∧W.cell? ⟨s+1,2,none⟩=some (.bool false)∧W.cell? ⟨s+1,3,none⟩=some (.slice A4 nd c4)) (first | go_keep | exact HKK.out _ (by (focus ((repeat (first | assumption | exact Al _ _ | exact Ai _ _ | exact Af _ _ _ | refine Ae ?_ (Af _ _ _) | refine Ae ?_ (Ai _ _) | refine Ae ?_ (by assumption)));done))))
   (first
   | (go_at_call_of 146 (Value.agg #[.bool sa,.slice A1 na c1]);refine (Eg _ _ _ a d (HPA.out.more (by (focus ((repeat (first | assumption | exact Al _ _ | exact Ai _ _ | exact Af _ _ _ | refine Ae ?_ (Af _ _ _) | refine Ae ?_ (Ai _ _) | refine Ae ?_ (by assumption)));done)))) (HQB.out.more (by (focus ((repeat (first | assumption | exact Al _ _ | exact Ai _ _ | exact Af _ _ _ | refine Ae ?_ (Af _ _ _) | refine Ae ?_ (Ai _ _) | refine Ae ?_ (by assumption)));done)))) (by rw [HEA.out];have:=HLP.out.1;omega) (by rw [HED.out];have:=HLQ.out.2;omega)).mono ?_;rintro e w2 ⟨v2,rfl,hv2,hg2⟩)
   | (go_at_call_of 146 (Value.agg #[.bool sc,.slice A3 nc c3]);refine (Eg _ _ _ c b (HQA.out.more (by (focus ((repeat (first | assumption | exact Al _ _ | exact Ai _ _ | exact Af _ _ _ | refine Ae ?_ (Af _ _ _) | refine Ae ?_ (Ai _ _) | refine Ae ?_ (by assumption)));done)))) (HPB.out.more (by (focus ((repeat (first | assumption | exact Al _ _ | exact Ai _ _ | exact Af _ _ _ | refine Ae ?_ (Af _ _ _) | refine Ae ?_ (Ai _ _) | refine Ae ?_ (by assumption)));done)))) (by rw [HEC.out];have:=HLQ.out.1;omega) (by rw [HEB.out];have:=HLP.out.2;omega)).mono ?_;rintro e w6 ⟨vc,rfl,hvc,hg6⟩)
   | (go_at_call 197;refine (Rj _ _ _ (a*d) (c*b) (hv2.more (by (focus ((repeat (first | assumption | exact Al _ _ | exact Ai _ _ | exact Af _ _ _ | refine Ae ?_ (Af _ _ _) | refine Ae ?_ (Ai _ _) | refine Ae ?_ (by assumption)));done)))) (hvc.more (by (focus ((repeat (first | assumption | exact Al _ _ | exact Ai _ _ | exact Af _ _ _ | refine Ae ?_ (Af _ _ _) | refine Ae ?_ (Ai _ _) | refine Ae ?_ (by assumption)));done)))) (by have:=HM3.out;have:=HLP.out.1;have:=HLQ.out.2;omega) (by have:=HM4.out;have:=HLP.out.2;have:=HLQ.out.1;omega)).mono ?_;rw [HRR.out];rintro e w7 ⟨rfl,hg7⟩))
  all_goals
    go_wp2_with fail
    go_ret
    exact ⟨rfl,Ae HGW.out (show wa.grownBy w7 none by (focus ((repeat (first | assumption | exact Al _ _ | exact Ai _ _ | exact Af _ _ _ | refine Ae ?_ (Af _ _ _) | refine Ae ?_ (Ai _ _) | refine Ae ?_ (by assumption)));done)))⟩
set_option maxRecDepth 100000 in
theorem A2n (w:World) (v1:Value) (p:Rat) (ha:FQ w v1 p) :
    Calls Tryz.prog 190 #[v1] w fun e w'=>∃ v,e=.returned v∧FQ w' v (-p)∧w.grownBy w' none:=by
  obtain ⟨A1,c1,A2,c2,rfl,h1,h2⟩:=ha
  have HPA:Hid (NZ w (.agg #[.bool (decide (p.num<0)),.slice A1 (d16 p.num).length c1]) p.num):=Ac ⟨_,rfl,h1⟩
  have HNR:Hid (∃ R:Rat,-p=R∧R.num = -p.num∧(R.den:Int)=(p.den:Int)):=Ac ⟨_,rfl,rfl,rfl⟩
  obtain ⟨R,hR,hn,hd⟩:=HNR.out
  rw [hR]
  have HN:=Ac hn
  rw [←hd] at h2 ⊢
  have HD2:=Ac h2
  clear h1 h2 hR hn hd HNR
  generalize p.num=a at *
  generalize (d16 a).length=na at *
  generalize hnb:(d16 (R.den:Int)).length=nb at *
  generalize decide (a<0)=sa at *
  have HNB:=Ac hnb
  clear hnb
  have g1:=Af w (.cells #[.bool sa,.slice A1 na c1,.bool false,.slice A2 nb c2] 143) none
  have hB1:=(Blk.new w #[.bool sa,.slice A1 na c1,.bool false,.slice A2 nb c2] 143).more (Af _ (.cells #[.bool false,.slice none 0 0,.bool false,.slice none 0 0] 143) none)
  have hB2:=Blk.new (w.alloc (.cells #[.bool sa,.slice A1 na c1,.bool false,.slice A2 nb c2] 143)) #[.bool false,.slice none 0 0,.bool false,.slice none 0 0] 143
  rw [World.size_alloc] at hB2
  have HGW:=Ac (Ae g1 (Af (w.alloc (.cells #[.bool sa,.slice A1 na c1,.bool false,.slice A2 nb c2] 143)) (.cells #[.bool false,.slice none 0 0,.bool false,.slice none 0 0] 143) none))
  have HPA:=Ac (HPA.out.more HGW.out)
  have HD2:=Ac (HD2.out.more HGW.out)
  have HB2:=Ac hB2
  obtain ⟨x0,x1,x2,x3,_⟩:=hB1.four
  clear g1 hB1 hB2
  go_enter Tryz.func190,Tryz.ntmps190
  go_wp2_with fail
  generalize (w.alloc (.cells #[.bool sa,.slice A1 na c1,.bool false,.slice A2 nb c2] 143)).alloc (.cells #[.bool false,.slice none 0 0,.bool false,.slice none 0 0] 143)=wa at *
  generalize hs:w.heap.size=s at *
  have HS:=Ac hs
  clear hs
  have HKK:=Ac (fun W (h:wa.grownBy W none)=>(⟨Aj h x0 (by simp),Aj h x1 (by simp),Aj h x2 (by simp),Aj h x3 (by simp)⟩:W.cell? ⟨s,0,none⟩=some (.bool sa)∧W.cell? ⟨s,1,none⟩=some (.slice A1 na c1)∧W.cell? ⟨s,2,none⟩=some (.bool false)∧W.cell? ⟨s,3,none⟩=some (.slice A2 nb c2)))
  have ne1:s≠s+1:=by omega
  have ne2:s+1≠s:=by omega
  go_region_held3 (fun W=>W.cell? ⟨s,0,none⟩=some (.bool sa)∧W.cell? ⟨s,1,none⟩=some (.slice A1 na c1)∧W.cell? ⟨s,2,none⟩=some (.bool false)∧W.cell? ⟨s,3,none⟩=some (.slice A2 nb c2)) (first | go_keep | exact HKK.out _ (by (focus ((repeat (first | assumption | exact Al _ _ | exact Ai _ _ | exact Af _ _ _ | refine Ae ?_ (Af _ _ _) | refine Ae ?_ (Ai _ _) | refine Ae ?_ (by assumption)));done))))
   ((go_at_call 176;refine (Kp _ _ a (HPA.out.more (by (focus ((repeat (first | assumption | exact Al _ _ | exact Ai _ _ | exact Af _ _ _ | refine Ae ?_ (Af _ _ _) | refine Ae ?_ (Ai _ _) | refine Ae ?_ (by assumption)));done))))).mono ?_;rintro e w4 ⟨v4,rfl,hv4,hg4⟩;rw [←HN.out] at hv4;obtain ⟨A5,c5,rfl,hd5⟩:=hv4.form;have HB4:=Ac (HB2.out.more (show wa.grownBy w4 none by (focus ((repeat (first | assumption | exact Al _ _ | exact Ai _ _ | exact Af _ _ _ | refine Ae ?_ (Af _ _ _) | refine Ae ?_ (Ai _ _) | refine Ae ?_ (by assumption)));done))));obtain ⟨z0,z1,z2,z3,f0,f1,f2,f3⟩:=HB4.out.four))
  all_goals
    go_wp2_with fail
    try simp only [Exit.inBlock,Exit.then]
    obtain ⟨w5,hw5⟩:∃ W,W=((((w4.setCell ⟨s+1,0,none⟩ (.bool (decide (R.num<0)))).setCell ⟨s+1,1,none⟩ (.slice A5 (d16 R.num).length c5)).setCell ⟨s+1,2,none⟩ (.bool false)).setCell ⟨s+1,3,none⟩ (.slice A2 nb c2)):=⟨_,rfl⟩
    rw [←hw5]
    have hB5:Blk w5 (s+1) #[.bool (decide (R.num<0)),.slice A5 (d16 R.num).length c5,.bool false,.slice A2 nb c2]:=by rw [hw5];exact (((HB4.out.set 0 _).set 1 _).set 2 _).set 3 _
    have hG5:w4.grownBy w5 (some (s+1)):=by rw [hw5];exact Jl _ _ _ _ _ _
    clear z0 z1 z2 z3 f0 f1 f2 f3 hw5
    obtain ⟨z0,z1,z2,z3,_⟩:=hB5.four
    refine bodyPost_ret (v:=.agg #[.bool (decide (R.num<0)),.slice A5 (d16 R.num).length c5,.bool false,.slice A2 nb c2]) (by simp [results,Tryz.results190,go_sem,z0,z1,z2,z3]) rfl ⟨_,rfl,⟨A5,c5,A2,c2,by rw [HNB.out],hd5.keep HB4.out (by simp) hG5,by rw [HNB.out];exact (HD2.out.more (show wa.grownBy w4 none by (focus ((repeat (first | assumption | exact Al _ _ | exact Ai _ _ | exact Af _ _ _ | refine Ae ?_ (Af _ _ _) | refine Ae ?_ (Ai _ _) | refine Ae ?_ (by assumption)));done)))).keep HB4.out (by simp) hG5⟩,Aw (Ae HGW.out (show wa.grownBy w4 none by (focus ((repeat (first | assumption | exact Al _ _ | exact Ai _ _ | exact Af _ _ _ | refine Ae ?_ (Af _ _ _) | refine Ae ?_ (Ai _ _) | refine Ae ?_ (by assumption)));done)))) hG5 (by have:=HS.out;omega)⟩
set_option maxRecDepth 100000 in
theorem X4 (w:World) (z:Int) (h1:-9223372036854775808≤z) (h2:z≤9223372036854775807) :
  Calls Tryz.prog 113 #[.int .i64 z] w fun e w'=>∃ v,e=.returned v∧FQ w' v (z:Rat)∧w.grownBy w' none:=by
 have hB:=Blk.new w #[.bool false,.slice none 0 0,.bool false,.slice none 0 0] 143
 have HGW:=Ac (Af w (.cells #[.bool false,.slice none 0 0,.bool false,.slice none 0 0] 143) none)
 have HB:=Ac hB
 have HMW:=Ac (Rm (w.alloc (.cells #[.bool false,.slice none 0 0,.bool false,.slice none 0 0] 143)) z h1 h2)
 have HFQ:Hid (∀ w A c A' c',D16 w (.slice A (d16 z).length c) (d16 z)→D16 w (.slice A' (d16 1).length c') (d16 1)→FQ w (.agg #[.bool (decide (z<0)),.slice A (d16 z).length c,.bool false,.slice A' (d16 1).length c']) (z:Rat)):=Ac fun w A c A' c' a b=>⟨A,c,A',c',rfl,a,b⟩
 clear hB h1 h2
 generalize (z:Rat)=Q at *
 go_enter Tryz.func113,Tryz.ntmps113
 go_wp2_with fail
 generalize w.alloc (.cells #[.bool false,.slice none 0 0,.bool false,.slice none 0 0] 143)=wa at *
 generalize hs:w.heap.size=s at *
 have HS:=Ac hs
 clear hs
 refine HMW.out.mono ?_
 rintro e w1 ⟨v1,rfl,hv1,hg1⟩
 obtain ⟨A1,c1,rfl,hd1⟩:=hv1.form
 have HD1:=Ac hd1
 clear hv1 hd1 HMW
 go_wp2_with fail
 refine (F6 w1 1 (by omega)).mono ?_
 rintro e w2 ⟨v2,rfl,hv2,hg2⟩
 obtain ⟨A2,c2,rfl,hd2⟩:=NZ.form (z:=1) hv2
 have HB4:=Ac (HB.out.more (Ae hg1 hg2))
 have HD2:=Ac hd2
 clear hv2 hd2
 obtain ⟨z0,z1,z2,z3,f0,f1,f2,f3⟩:=HB4.out.four
 generalize decide (z<0)=sg at *
 generalize hn1:(d16 z).length=n1 at *
 have HN1:=Ac hn1
 clear hn1
 go_wp2_with fail
 try simp only [Exit.inBlock,Exit.then]
 obtain ⟨w5,hw5⟩:∃ W,W=((((w2.setCell ⟨s,0,none⟩ (.bool sg)).setCell ⟨s,1,none⟩ (.slice A1 n1 c1)).setCell ⟨s,2,none⟩ (.bool false)).setCell ⟨s,3,none⟩ (.slice A2 (d16 1).length c2)):=⟨_,rfl⟩
 rw [←hw5]
 have hB5:Blk w5 s #[.bool sg,.slice A1 n1 c1,.bool false,.slice A2 (d16 1).length c2]:=by rw [hw5];exact (((HB4.out.set 0 _).set 1 _).set 2 _).set 3 _
 have hG5:w2.grownBy w5 (some s):=by rw [hw5];exact Jl _ _ _ _ _ _
 clear z0 z1 z2 z3 f0 f1 f2 f3 hw5
 obtain ⟨z0,z1,z2,z3,_⟩:=hB5.four
 refine bodyPost_ret (v:=.agg #[.bool sg,.slice A1 n1 c1,.bool false,.slice A2 (d16 1).length c2]) (by simp [results,Tryz.results113,go_sem,z0,z1,z2,z3]) rfl ⟨_,rfl,HFQ.out _ _ _ _ _ ((HD1.out.more hg2).keep HB4.out (by simp) hG5) (HD2.out.keep HB4.out (by simp) hG5),Aw (Ae HGW.out (Ae hg1 hg2)) hG5 (by have:=HS.out;omega)⟩
theorem L16.neg {q:Rat} {k:Nat} (h:L16 q k):L16 (-q) k:=⟨by rw [Rat.neg_num];have:=h.1;unfold d16 at *;rwa [Int.natAbs_neg],by rw [Rat.neg_den];exact h.2⟩
set_option maxRecDepth 100000 in
theorem A31 (w:World) (v1 v2:Value) (p q:Rat) (ha:FQ w v1 p) (hb:FQ w v2 q) (K:Nat) (lp:L16 p K) (lq:L16 q K) (hK:K≤500000000000) :
    Calls Tryz.prog 117 #[v1,v2] w fun e w'=>∃ v,e=.returned v∧FQ w' v (p-q)∧w.grownBy w' none:=by
  rw [Rat.sub_eq_add_neg]
  have HPL:=Ac fun W u v (a:FQ W u p) (b:FQ W v (-q))=>A28 W u v p (-q) a b K lp lq.neg hK
  have HMI:=Ac fun W u (a:FQ W u q)=>A2n W u q a
  clear lp lq hK
  generalize -q=q' at *
  have HA:=Ac ha
  have HB:=Ac hb
  have HRF:Hid (∀ w' v,FQ w' v (p+q')→∃ A c A' c',v=.agg #[.bool (decide ((p+q').num<0)),.slice A (d16 (p+q').num).length c,.bool false,.slice A' (d16 ((p+q').den:Int)).length c']∧∀ w'' cs s,Blk w' s cs→(∀ u∈cs.toList,∀ n,u≠.int .i64 n)→w'.grownBy w'' (some s)→FQ w'' v (p+q')):=Ac (by
    rintro w' v ⟨A,c,A',c',rfl,a,b⟩
    exact ⟨A,c,A',c',rfl,fun w'' cs s h hn hg=>⟨A,c,A',c',rfl,a.keep h hn hg,b.keep h hn hg⟩⟩)
  obtain ⟨A1,c1,A2,c2,rfl,_,_⟩:=ha
  obtain ⟨A3,c3,A4,c4,rfl,_,_⟩:=hb
  generalize p+q'=R at *
  generalize decide (p.num<0)=sa at *
  generalize (d16 p.num).length=na at *
  generalize (d16 (p.den:Int)).length=nb at *
  generalize decide (q.num<0)=sc at *
  generalize (d16 q.num).length=nc at *
  generalize (d16 (q.den:Int)).length=nd at *
  generalize decide (R.num<0)=sr at *
  generalize (d16 R.num).length=nr at *
  generalize (d16 (R.den:Int)).length=nt at *
  have g1:=Af w (.cells #[.bool sa,.slice A1 na c1,.bool false,.slice A2 nb c2] 143) none
  have g2:=Af (w.alloc (.cells #[.bool sa,.slice A1 na c1,.bool false,.slice A2 nb c2] 143)) (.cells #[.bool sc,.slice A3 nc c3,.bool false,.slice A4 nd c4] 143) none
  have g3:=Af ((w.alloc (.cells #[.bool sa,.slice A1 na c1,.bool false,.slice A2 nb c2] 143)).alloc (.cells #[.bool sc,.slice A3 nc c3,.bool false,.slice A4 nd c4] 143)) (.cells #[.bool false,.slice none 0 0,.bool false,.slice none 0 0] 143) none
  have hB1:=(Blk.new w #[.bool sa,.slice A1 na c1,.bool false,.slice A2 nb c2] 143).more (Ae g2 g3)
  have hB2:=(Blk.new (w.alloc (.cells #[.bool sa,.slice A1 na c1,.bool false,.slice A2 nb c2] 143)) #[.bool sc,.slice A3 nc c3,.bool false,.slice A4 nd c4] 143).more g3
  have hB3:=Blk.new ((w.alloc (.cells #[.bool sa,.slice A1 na c1,.bool false,.slice A2 nb c2] 143)).alloc (.cells #[.bool sc,.slice A3 nc c3,.bool false,.slice A4 nd c4] 143)) #[.bool false,.slice none 0 0,.bool false,.slice none 0 0] 143
  rw [World.size_alloc] at hB2 hB3
  rw [World.size_alloc] at hB3
  have HGW:=Ac (Ae g1 (Ae g2 g3))
  have HA:=Ac (HA.out.more HGW.out)
  have HB:=Ac (HB.out.more HGW.out)
  have HB3:=Ac hB3
  obtain ⟨x0,x1,x2,x3,_⟩:=hB1.four
  obtain ⟨y0,y1,y2,y3,_⟩:=hB2.four
  clear g1 g2 g3 hB1 hB2 hB3
  go_enter Tryz.func117,Tryz.ntmps117
  go_wp2_with fail
  generalize ((w.alloc (.cells #[.bool sa,.slice A1 na c1,.bool false,.slice A2 nb c2] 143)).alloc (.cells #[.bool sc,.slice A3 nc c3,.bool false,.slice A4 nd c4] 143)).alloc (.cells #[.bool false,.slice none 0 0,.bool false,.slice none 0 0] 143)=wa at *
  generalize hs:w.heap.size=s at *
  have HS:=Ac hs
  clear hs
  have HKK:=Ac (fun W (h:wa.grownBy W none)=>(⟨Aj h x0 (by simp),Aj h x1 (by simp),Aj h x2 (by simp),Aj h x3 (by simp),Aj h y0 (by simp),Aj h y1 (by simp),Aj h y2 (by simp),Aj h y3 (by simp)⟩:W.cell? ⟨s,0,none⟩=some (.bool sa)∧W.cell? ⟨s,1,none⟩=some (.slice A1 na c1)∧W.cell? ⟨s,2,none⟩=some (.bool false)∧W.cell? ⟨s,3,none⟩=some (.slice A2 nb c2)∧W.cell? ⟨s+1,0,none⟩=some (.bool sc)∧W.cell? ⟨s+1,1,none⟩=some (.slice A3 nc c3)∧W.cell? ⟨s+1,2,none⟩=some (.bool false)∧W.cell? ⟨s+1,3,none⟩=some (.slice A4 nd c4)))
  have ne1:s≠s+1+1:=by omega
  have ne2:s+1≠s+1+1:=by omega
  have ne3:s+1+1≠s:=by omega
  have ne4:s+1+1≠s+1:=by omega
  go_region_held3 (fun W=>W.cell? ⟨s,0,none⟩=some (.bool sa)∧W.cell? ⟨s,1,none⟩=some (.slice A1 na c1)∧W.cell? ⟨s,2,none⟩=some (.bool false)∧W.cell? ⟨s,3,none⟩=some (.slice A2 nb c2)∧W.cell? ⟨s+1,0,none⟩=some (.bool sc)∧W.cell? ⟨s+1,1,none⟩=some (.slice A3 nc c3)∧W.cell? ⟨s+1,2,none⟩=some (.bool false)∧W.cell? ⟨s+1,3,none⟩=some (.slice A4 nd c4)) (first | go_keep | exact HKK.out _ (by (focus ((repeat (first | assumption | exact Al _ _ | exact Ai _ _ | exact Af _ _ _ | refine Ae ?_ (Af _ _ _) | refine Ae ?_ (Ai _ _) | refine Ae ?_ (by assumption)));done))))
   (first
   | (go_at_call 190;refine (HMI.out _ _ (HB.out.more (by (focus ((repeat (first | assumption | exact Al _ _ | exact Ai _ _ | exact Af _ _ _ | refine Ae ?_ (Af _ _ _) | refine Ae ?_ (Ai _ _) | refine Ae ?_ (by assumption)));done))))).mono ?_;rintro e w2 ⟨v2,rfl,hv2,hg2⟩)
   | (go_at_call 98;refine (HPL.out _ _ _ (HA.out.more (by (focus ((repeat (first | assumption | exact Al _ _ | exact Ai _ _ | exact Af _ _ _ | refine Ae ?_ (Af _ _ _) | refine Ae ?_ (Ai _ _) | refine Ae ?_ (by assumption)));done)))) (hv2.more (by (focus ((repeat (first | assumption | exact Al _ _ | exact Ai _ _ | exact Af _ _ _ | refine Ae ?_ (Af _ _ _) | refine Ae ?_ (Ai _ _) | refine Ae ?_ (by assumption)));done))))).mono ?_;rintro e w4 ⟨v4,rfl,hv4,hg4⟩;obtain ⟨A5,c5,A6,c6,rfl,hkk⟩:=HRF.out _ _ hv4;have HB4:=Ac (HB3.out.more (show wa.grownBy w4 none by (focus ((repeat (first | assumption | exact Al _ _ | exact Ai _ _ | exact Af _ _ _ | refine Ae ?_ (Af _ _ _) | refine Ae ?_ (Ai _ _) | refine Ae ?_ (by assumption)));done))));obtain ⟨z0,z1,z2,z3,f0,f1,f2,f3⟩:=HB4.out.four))
  all_goals
    go_wp2_with fail
    try simp only [Exit.inBlock,Exit.then]
    obtain ⟨w5,hw5⟩:∃ W,W=((((w4.setCell ⟨s+1+1,0,none⟩ (.bool sr)).setCell ⟨s+1+1,1,none⟩ (.slice A5 nr c5)).setCell ⟨s+1+1,2,none⟩ (.bool false)).setCell ⟨s+1+1,3,none⟩ (.slice A6 nt c6)):=⟨_,rfl⟩
    rw [←hw5]
    have hB5:Blk w5 (s+1+1) #[.bool sr,.slice A5 nr c5,.bool false,.slice A6 nt c6]:=by rw [hw5];exact (((HB4.out.set 0 _).set 1 _).set 2 _).set 3 _
    have hG5:w4.grownBy w5 (some (s+1+1)):=by rw [hw5];exact Jl _ _ _ _ _ _
    clear z0 z1 z2 z3 f0 f1 f2 f3 hw5
    obtain ⟨z0,z1,z2,z3,_⟩:=hB5.four
    refine bodyPost_ret (v:=.agg #[.bool sr,.slice A5 nr c5,.bool false,.slice A6 nt c6]) (by simp [results,Tryz.results117,go_sem,z0,z1,z2,z3]) rfl ⟨_,rfl,hkk _ _ _ HB4.out (by simp) hG5,Aw (Ae HGW.out (show wa.grownBy w4 none by (focus ((repeat (first | assumption | exact Al _ _ | exact Ai _ _ | exact Af _ _ _ | refine Ae ?_ (Af _ _ _) | refine Ae ?_ (Ai _ _) | refine Ae ?_ (by assumption)));done)))) hG5 (by have:=HS.out;omega)⟩
end
section
open Go.RowKit Go.Maps
theorem Va {P:Program} {w:World} {ops:Array Oper} {o:Oper} {a:Act} {K:Act→World→Prop} {Q:Exit→Act→World→Prop} {E:Prop} (hgd:o.guard=none) (f:FuncId) (x y:Operand) (tx ty:TypeId)
  (ho:o.op=.call { callee:=.value (.func f),args:=#[x,y],argTypes:=#[tx,ty] }) (u v:Value) (hu:a.eval x=u) (hv:a.eval y=v)
  (henter:∀ args w,(callFunc f args).run P w=.ok (.enter f args) w)
  (R:Value→World→Prop) (hC:Calls P f #[u,v] w fun e w'=>∃ v,e=.returned v∧R v w') (hK:∀ v w',R v w'→K (a.put o.dst v) w') :
  if Region.wanted o (yielded ops a.tmps)=true then Oper.wp P o a w K Q else E:=by
 have hw:Region.wanted o (yielded ops a.tmps)=true:=by simp [Region.wanted,hgd]
 rw [if_pos hw]
 have hf:a.eval (.func f)=.func (.func f) #[] #[]:=rfl
 have hrun:(execOp a.eval o).run P w=.ok (.enter f #[u,v]) w:=by
  generalize a.eval=ev at *
  simp [execOp,ho,resolve,invoke,hu,hv,hf,henter,go_sem]
 unfold Oper.wp
 rw [hrun]
 simp only [Oper.upon]
 refine hC.mono ?_
 rintro e w' ⟨v,rfl,hr⟩
 exact hK v w' hr
end
end Go.Proofs.YtckbiimikeiejaaGreatDoor
