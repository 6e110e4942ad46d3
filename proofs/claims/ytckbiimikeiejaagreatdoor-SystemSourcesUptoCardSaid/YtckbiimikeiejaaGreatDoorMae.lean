/- Rat BigK BigL BigM BigN BigO Wide. -/
import Derived.Test.YtckbiimikeiejaaGreatDoorMaa
import Derived.Test.YtckbiimikeiejaaGreatDoorMad
import Derived.StillTailTactics
set_option linter.unusedVariables false
set_option linter.unusedSimpArgs false
set_option maxHeartbeats 40000000
namespace Go.Proofs.YtckbiimikeiejaaGreatDoor
section
open Rat
theorem Ea {x y:Int} (h:x.natAbs≤y.natAbs):lim x≤lim y :=
 (Ek x _).2 (Nat.lt_of_le_of_lt h ((Ek y _).1 (Nat.le_refl _)))
theorem A0k (x:Int):lim (-x)=lim x:=by unfold lim digs;rw [Int.natAbs_neg]
theorem C9 (x y:Int):lim (x*y)≤lim x+lim y:=by
 rw [Ek,Int.natAbs_mul,Nat.pow_add]
 exact Nat.mul_lt_mul'' ((Ek x _).1 (Nat.le_refl _)) ((Ek y _).1 (Nat.le_refl _))
theorem Mz {x y:Int} {k:Nat} (hx:lim x≤k) (hy:lim y≤k):lim (x+y)≤k+1:=by
 rw [Ek] at *
 rw [Nat.pow_succ]
 have:=Int.natAbs_add_le x y
 omega
theorem Hv {x:Int} (h:x.natAbs<4294967296):lim x≤1:=(Ek x 1).2 (by simpa using h)
theorem Ii {x:Int} (h1:-9223372036854775808≤x) (h2:x≤9223372036854775807):lim x≤2:=(Ek x 2).2 (by omega)
def LimQ (q:Rat) (k:Nat):Prop:=lim q.num≤k∧lim (q.den:Int)≤k
theorem LimQ.mono {q:Rat} {k l:Nat} (h:LimQ q k) (hl:k≤l):LimQ q l:=⟨Nat.le_trans h.1 hl,Nat.le_trans h.2 hl⟩
theorem LimQ.neg {q:Rat} {k:Nat} (h:LimQ q k):LimQ (-q) k:=⟨by rw [Rat.neg_num,A0k];exact h.1,by rw [Rat.neg_den];exact h.2⟩
def gs (n d:Int):Int:=if d<0 then -(Nat.gcd n.natAbs d.natAbs:Int) else (Nat.gcd n.natAbs d.natAbs:Int)
theorem A24 {n d:Int} (hd:d≠0):gs n d≠0:=by
 have:0<Nat.gcd n.natAbs d.natAbs:=Nat.gcd_pos_of_pos_right _ (by omega)
 unfold gs;split<;>omega
theorem Gr (n d:Int) (hd:d≠0):(n /. d).num=n.tdiv (gs n d):=by
 rw [Rat.num_divInt]
 have e:(Int.gcd d n:Int)=(Nat.gcd n.natAbs d.natAbs:Int):=by rw [Int.gcd,Nat.gcd_comm]
 rw [e]
 have hdvd:((Nat.gcd n.natAbs d.natAbs:Nat):Int)∣n:=Int.natAbs_dvd_natAbs.1 (by simpa using Nat.gcd_dvd_left n.natAbs d.natAbs)
 unfold gs
 rcases Int.lt_or_gt_of_ne hd with h | h
 ·rw [if_pos h,Int.sign_eq_neg_one_of_neg h,Int.tdiv_neg]
  rw [Int.tdiv_eq_ediv_of_dvd hdvd]
  rw [show (-1:Int)*n = -n by omega,Int.neg_ediv_of_dvd hdvd]
 ·rw [if_neg (by omega),Int.sign_eq_one_of_pos h,Int.one_mul,Int.tdiv_eq_ediv_of_dvd hdvd]
theorem Gq (n d:Int) (hd:d≠0):(((n /. d).den:Nat):Int)=d.tdiv (gs n d):=by
 rw [Rat.den_divInt,if_neg hd]
 have e:Int.gcd d n=Nat.gcd n.natAbs d.natAbs:=by rw [Int.gcd,Nat.gcd_comm]
 rw [e]
 have hdvd:((Nat.gcd n.natAbs d.natAbs:Nat):Int)∣d:=Int.natAbs_dvd_natAbs.1 (by simpa using Nat.gcd_dvd_right n.natAbs d.natAbs)
 unfold gs
 rcases Int.lt_or_gt_of_ne hd with h | h
 ·rw [if_pos h,Int.tdiv_neg,Int.tdiv_eq_ediv_of_dvd hdvd,←Int.neg_ediv_of_dvd hdvd,Int.natCast_ediv]
  rw [show ((d.natAbs:Nat):Int) = -d by omega]
 ·rw [if_neg (by omega),Int.tdiv_eq_ediv_of_dvd hdvd,Int.natCast_ediv]
  rw [show ((d.natAbs:Nat):Int)=d by omega]
theorem D7 (a b:Int):(a.tdiv b).natAbs≤a.natAbs:=by rw [Int.natAbs_tdiv];exact Nat.div_le_self _ _
theorem LimQ.divInt {n d:Int} {k:Nat} (hd:d≠0) (hn:lim n≤k) (h:lim d≤k):LimQ (n /. d) k :=
 ⟨by rw [Gr n d hd];exact Nat.le_trans (Ea (D7 _ _)) hn,by rw [Gq n d hd];exact Nat.le_trans (Ea (D7 _ _)) h⟩
theorem Gp (q:Rat):(q.den:Int)≠0:=by have:=q.den_nz;omega
theorem If (p q:Rat):p+q=(p.num*q.den+q.num*p.den) /. ((p.den:Int)*q.den):=by
 conv=>lhs;rw [←Rat.num_divInt_den p,←Rat.num_divInt_den q]
 rw [Rat.divInt_add_divInt _ _ (Gp p) (Gp q)]
theorem Kc (p q:Rat):p*q=(p.num*q.num) /. ((p.den:Int)*q.den):=by
 conv=>lhs;rw [←Rat.num_divInt_den p,←Rat.num_divInt_den q]
 rw [Rat.divInt_mul_divInt]
theorem Ob (p q:Rat):p/q=(p.num*q.den) /. ((p.den:Int)*q.num):=by
 rw [Rat.div_def,Rat.inv_def]
 conv=>lhs;rw [←Rat.num_divInt_den p]
 rw [Rat.divInt_mul_divInt]
theorem Mj (q:Rat):q⁻¹=(q.den:Int) /. q.num:=Rat.inv_def q
theorem Gn (p q:Rat):(p.den:Int)*q.den≠0:=Int.mul_ne_zero (Gp p) (Gp q)
theorem LimQ.add {p q:Rat} {k:Nat} (hp:LimQ p k) (hq:LimQ q k):LimQ (p+q) (2*k+1):=by
 rw [If]
 refine LimQ.divInt (Gn p q) (Mz ?_ ?_) ?_
 ·have:=C9 p.num q.den;have:=hp.1;have:=hq.2;omega
 ·have:=C9 q.num p.den;have:=hq.1;have:=hp.2;omega
 ·have:=C9 p.den q.den;have:=hp.2;have:=hq.2;omega
theorem LimQ.mul {p q:Rat} {k:Nat} (hp:LimQ p k) (hq:LimQ q k):LimQ (p*q) (2*k):=by
 rw [Kc]
 refine LimQ.divInt (Gn p q) ?_ ?_
 ·have:=C9 p.num q.num;have:=hp.1;have:=hq.1;omega
 ·have:=C9 p.den q.den;have:=hp.2;have:=hq.2;omega
theorem LimQ.inv {q:Rat} {k:Nat} (hq:LimQ q k) (h0:q≠0):LimQ q⁻¹ k:=by
 rw [Mj]
 have hn:q.num≠0:=fun h=>h0 (Rat.num_eq_zero.1 h)
 exact LimQ.divInt hn hq.2 hq.1
/-! ### fractions in memory -/
def A23 (q:Rat) (d:Int):Prop:=d=q.den∨(q=0∧d=0)
def RatB (w:World) (b:Nat) (q:Rat):Prop :=
 ∃ vn vd d T,A23 q d∧w.heap[b]? = some (.cells #[.bool (decide (q.num<0)),vn,.bool false,vd] T (0,0))∧Nums w vn (digs q.num)∧Nums w vd (digs d)
theorem RatB.lt {w:World} {b:Nat} {q:Rat} (h:RatB w b q):b<w.heap.size:=by
 obtain ⟨vn,vd,d,T,_,hb,_⟩:=h
 exact Dq hb
theorem RatB.num {w:World} {b:Nat} {q:Rat} (h:RatB w b q):IntAt w b 0 q.num:=by
 obtain ⟨vn,vd,d,T,_,hb,hn,_⟩:=h
 exact ⟨vn,by rw [Ay hb];rfl,by rw [Ay hb];rfl,hn⟩
theorem RatB.plain {w:World} {b:Nat} {q:Rat} (h:RatB w b q):Dt w b:=by
 obtain ⟨vn,vd,d,T,_,hb,hn,hd⟩:=h
 intro o n
 rw [Ay hb]
 match o with
 | 0=>simp
 | 1=>simpa using hn.not_int .u32 n
 | 2=>simp
 | 3=>simpa using hd.not_int .u32 n
 | _+4=>simp
theorem RatB.more {w w':World} {b:Nat} {q:Rat} (h:RatB w b q) (hg:w.grownBy w' none):RatB w' b q:=by
 obtain ⟨vn,vd,d,T,h0,hb,hn,hd⟩:=h
 exact ⟨vn,vd,d,T,h0,Do hg hb (by simp),hn.more hg,hd.more hg⟩
theorem RatB.drew {w:World} {b:Nat} {q:Rat} (h:RatB w b q):RatB w.drew b q:=h.more (Ai _ _)
theorem RatB.other {w w':World} {b r:Nat} {q:Rat} (h:RatB w b q) (hg:w.grownBy w' (some r)) (hp:Dt w r) (hne:b≠r):RatB w' b q:=by
 obtain ⟨vn,vd,d,T,h0,hb,hn,hd⟩:=h
 exact ⟨vn,vd,d,T,h0,Do hg hb (by simpa using hne),hn.other hg hp,hd.other hg hp⟩
theorem RatB.stored {w:World} {b:Nat} {q0 q:Rat} (hz:RatB w b q0) {vn vd:Value} (hn:Nums w vn (digs q.num)) (hd:Nums w vd (digs (q.den:Int))) :
  RatB ((((w.setCell ⟨b,0,none⟩ (.bool (decide (q.num<0)))).setCell ⟨b,1,none⟩ vn).setCell ⟨b,2,none⟩ (.bool false)).setCell ⟨b,3,none⟩ vd) b q∧
   w.grownBy ((((w.setCell ⟨b,0,none⟩ (.bool (decide (q.num<0)))).setCell ⟨b,1,none⟩ vn).setCell ⟨b,2,none⟩ (.bool false)).setCell ⟨b,3,none⟩ vd) (some b):=by
 have hp:=hz.plain
 have hg:=Ae (Ae (Ae (Au w b 0 (.bool (decide (q.num<0)))) (Au _ b 1 vn)) (Au _ b 2 (.bool false))) (Au _ b 3 vd)
 obtain ⟨_,_,_,T,_,hh,_,_⟩:=hz
 refine ⟨⟨vn,vd,q.den,T,.inl rfl,?_,hn.other hg hp,hd.other hg hp⟩,hg⟩
 rw [C4 (C4 (C4 (C4 hh _) _) _) _]
 rfl
theorem RatB.new (w:World) (T:TypeId):RatB (w.alloc (.cells #[.bool false,.slice none 0 0,.bool false,.slice none 0 0] T)) w.heap.size 0 :=
 ⟨_,_,0,T,.inr ⟨rfl,rfl⟩,Bi _ _,Nums.nil _,Nums.nil _⟩
end
section
open Go.RowKit
open Rat
set_option maxRecDepth 100000 in
theorem Gs (w:World) (bz bn on bd od:Nat) (q0:Rat) (n d:Int) (hz:RatB w bz q0) (hn:IntAt w bn on n) (hd:IntAt w bd od d) (ln:lim n≤549755813888) (ld:lim d≤549755813888) (hd0:d≠0) :
  Calls Tryz.prog 184 #[.pointer (some ⟨bz,0,none⟩),.pointer (some ⟨bn,on,none⟩),.pointer (some ⟨bd,od,none⟩)] w fun e w'=>e=.returned (.pointer (some ⟨bz,0,none⟩))∧RatB w' bz (n /. d)∧w.grownBy w' (some bz):=by
 have hG:=Ll w bn on bd od n d hn hd ln ld
 have hgs:=A24 (n:=n) hd0
 have HG:=Ac hG
 have HS:Hid ((n /. d).num=n.tdiv (gs n d)∧(((n /. d).den:Nat):Int)=d.tdiv (gs n d)):=Ac ⟨Gr n d hd0,Gq n d hd0⟩
 clear hG
 by_cases hneg:d<0
 ·have hgv:gs n d = -(Nat.gcd n.natAbs d.natAbs:Int):=if_pos hneg
  have hgp:0<Nat.gcd n.natAbs d.natAbs:=Nat.gcd_pos_of_pos_right _ (by omega)
  have HGV:=Ac hgv
  clear hgv
  go_enter Tryz.func184,Tryz.ntmps184
  go_wp2_with fail
  refine HG.out.mono ?_
  rintro e w1 ⟨bg,rfl,hg,hbg,hg1⟩
  obtain ⟨vd,d0,d1,hnd⟩:=hd.more hg1
  rw [decide_eq_true hneg] at d0
  obtain ⟨vg,T,hgh,hgn⟩:=hg
  have gc0:=Ay hgh 0
  have gf0:=Bj hgh 0
  rw [decide_eq_false (by omega)] at hgh gc0
  simp only [List.getElem?_toArray,List.getElem?_cons_zero] at gc0
  have hg1s:w.grownBy (w1.setCell ⟨bg,0,none⟩ (.bool true)) none:=Aw hg1 (Au _ _ _ _) hbg
  have hgi:IntB (w1.setCell ⟨bg,0,none⟩ (.bool true)) bg (gs n d):=by
   refine ⟨vg,T,by rw [C4 hgh,HGV.out,decide_eq_true (by omega)];rfl,?_⟩
   rw [HGV.out,show digs (-(Nat.gcd n.natAbs d.natAbs:Int))=digs (Nat.gcd n.natAbs d.natAbs:Int) by unfold digs;rw [Int.natAbs_neg]]
   refine hgn.other (Au _ _ _ _) (fun o k=>?_)
   rw [Ay hgh]
   match o with
   | 0=>simp
   | 1=>simpa using hgn.not_int .u32 k
   | _+2=>simp
  clear hgn HGV hgp hg1
  go_wp2_with fail
  obtain ⟨ws,hws⟩:∃ ws,ws=w1.setCell ⟨bg,0,none⟩ (.bool true):=⟨_,rfl⟩
  have hsz:ws.heap.size=w1.heap.size:=by rw [hws];simp [World.setCell]
  rw [←hws] at hg1s hgi ⊢
  have gws:=hg1s
  clear hws hg1s hgh gc0 gf0 d0 d1 hnd
  have hia:IntB ((ws.alloc (.cells #[.bool false,.slice none 0 0] 158)).alloc (.cells #[.bool false,.slice none 0 0] 158)) (w1.heap.size) 0:=by rw [←hsz];exact (IntB.new ws 158).more (Af _ _ _)
  have hib:IntB ((ws.alloc (.cells #[.bool false,.slice none 0 0] 158)).alloc (.cells #[.bool false,.slice none 0 0] 158)) (w1.heap.size+1) 0:=by have:=IntB.new (ws.alloc (.cells #[.bool false,.slice none 0 0] 158)) 158;rwa [World.size_alloc,hsz] at this
  have gwb:ws.grownBy ((ws.alloc (.cells #[.bool false,.slice none 0 0] 158)).alloc (.cells #[.bool false,.slice none 0 0] 158)) none:=Ae (Af _ _ _) (Af _ _ _)
  have gw:=Ae gws gwb
  have hnb:=hn.more gw
  have hdb:=hd.more gw
  have hzb:=hz.more gw
  have hgb:=hgi.more gwb
  have l1:=hn.lt
  have l2:=hd.lt
  have l3:=hz.lt
  have l4:=hgi.lt
  rw [hsz] at l4
  have l5:=gws.size
  rw [hsz] at l5
  generalize (ws.alloc (.cells #[.bool false,.slice none 0 0] 158)).alloc (.cells #[.bool false,.slice none 0 0] 158)=wq at *
  clear gwb gws hgi
  refine (Gf wq w1.heap.size bn on bg 0 0 n (gs n d) hia hnb hgb.at (by omega) hgs).mono ?_
  rintro e w3 ⟨rfl,ha3,hg3⟩
  have p3:=hia.plain
  have hib3:=hib.other hg3 p3 (by omega)
  have hdb3:=hdb.other hg3 p3 (by omega)
  have hzb3:=hzb.other hg3 p3 (by omega)
  have hgb3:=hgb.other hg3 p3 (by omega)
  have gw3:=Aw gw hg3 l5
  clear hg3 p3 hib hdb hzb hgb hia hnb gw
  go_wp2_with fail
  refine (Gf w3 (w1.heap.size+1) bd od bg 0 0 d (gs n d) hib3 hdb3 hgb3.at (by omega) hgs).mono ?_
  rintro e w4 ⟨rfl,hb4,hg4⟩
  have p4:=hib3.plain
  have ha4:=ha3.other hg4 p4 (by omega)
  have hzb4:=hzb3.other hg4 p4 (by omega)
  have gw4:=Aw gw3 hg4 (by omega)
  clear hg4 p4 hib3 hdb3 hzb3 hgb3 ha3 gw3
  rw [←HS.out.1] at ha4
  rw [←HS.out.2] at hb4
  have HZ:=Ac hzb4
  obtain ⟨va,Ta,hah,han⟩:=ha4
  obtain ⟨vb,Tb,hbh,hbn⟩:=hb4
  obtain ⟨_,_,_,Tz,_,hzh,_,_⟩:=hzb4
  have a0:=Ay hah 0
  have a1:=Ay hah 1
  have b0:=Ay hbh 0
  have b1:=Ay hbh 1
  have z0:=Ay hzh 0
  have z1:=Ay hzh 1
  have z2:=Ay hzh 2
  have z3:=Ay hzh 3
  have f0:=Bj hzh 0
  have f1:=Bj hzh 1
  have f2:=Bj hzh 2
  have f3:=Bj hzh 3
  rw [decide_eq_false (by omega)] at b0
  simp only [List.getElem?_toArray,List.getElem?_cons_zero,List.getElem?_cons_succ] at a0 a1 b0 b1 z0 z1 z2 z3
  obtain ⟨Aa,ca,rfl,_,_⟩:=han.form
  obtain ⟨Ab,cb,rfl,_,_⟩:=hbn.form
  go_wp2
  go_ret
  have hst:=RatB.stored (q:=n /. d) HZ.out han hbn
  exact ⟨rfl,hst.1,Ae (C0 gw4) hst.2⟩
 ·have hgv:gs n d=(Nat.gcd n.natAbs d.natAbs:Int):=if_neg hneg
  have HGV:=Ac hgv
  clear hgv
  go_enter Tryz.func184,Tryz.ntmps184
  go_wp2_with fail
  refine HG.out.mono ?_
  rintro e w1 ⟨bg,rfl,hg,hbg,hg1⟩
  obtain ⟨vd,d0,d1,hnd⟩:=hd.more hg1
  rw [decide_eq_false (by omega)] at d0
  have hgi:IntB w1 bg (gs n d):=by rw [HGV.out];exact hg
  clear hg HGV
  go_wp2_with fail
  obtain ⟨ws,hws⟩:∃ ws,ws=w1:=⟨_,rfl⟩
  have hsz:ws.heap.size=w1.heap.size:=by rw [hws]
  have gws:w.grownBy ws none:=by rw [hws];exact hg1
  rw [←hws] at hgi
  clear hg1 d0 d1 hnd
  rw [show (w1.alloc (.cells #[.bool false,.slice none 0 0] 158)).alloc (.cells #[.bool false,.slice none 0 0] 158)=(ws.alloc (.cells #[.bool false,.slice none 0 0] 158)).alloc (.cells #[.bool false,.slice none 0 0] 158) by rw [hws]]
  clear hws
  have hia:IntB ((ws.alloc (.cells #[.bool false,.slice none 0 0] 158)).alloc (.cells #[.bool false,.slice none 0 0] 158)) (w1.heap.size) 0:=by rw [←hsz];exact (IntB.new ws 158).more (Af _ _ _)
  have hib:IntB ((ws.alloc (.cells #[.bool false,.slice none 0 0] 158)).alloc (.cells #[.bool false,.slice none 0 0] 158)) (w1.heap.size+1) 0:=by have:=IntB.new (ws.alloc (.cells #[.bool false,.slice none 0 0] 158)) 158;rwa [World.size_alloc,hsz] at this
  have gwb:ws.grownBy ((ws.alloc (.cells #[.bool false,.slice none 0 0] 158)).alloc (.cells #[.bool false,.slice none 0 0] 158)) none:=Ae (Af _ _ _) (Af _ _ _)
  have gw:=Ae gws gwb
  have hnb:=hn.more gw
  have hdb:=hd.more gw
  have hzb:=hz.more gw
  have hgb:=hgi.more gwb
  have l1:=hn.lt
  have l2:=hd.lt
  have l3:=hz.lt
  have l4:=hgi.lt
  rw [hsz] at l4
  have l5:=gws.size
  rw [hsz] at l5
  generalize (ws.alloc (.cells #[.bool false,.slice none 0 0] 158)).alloc (.cells #[.bool false,.slice none 0 0] 158)=wq at *
  clear gwb gws hgi
  refine (Gf wq w1.heap.size bn on bg 0 0 n (gs n d) hia hnb hgb.at (by omega) hgs).mono ?_
  rintro e w3 ⟨rfl,ha3,hg3⟩
  have p3:=hia.plain
  have hib3:=hib.other hg3 p3 (by omega)
  have hdb3:=hdb.other hg3 p3 (by omega)
  have hzb3:=hzb.other hg3 p3 (by omega)
  have hgb3:=hgb.other hg3 p3 (by omega)
  have gw3:=Aw gw hg3 l5
  clear hg3 p3 hib hdb hzb hgb hia hnb gw
  go_wp2_with fail
  refine (Gf w3 (w1.heap.size+1) bd od bg 0 0 d (gs n d) hib3 hdb3 hgb3.at (by omega) hgs).mono ?_
  rintro e w4 ⟨rfl,hb4,hg4⟩
  have p4:=hib3.plain
  have ha4:=ha3.other hg4 p4 (by omega)
  have hzb4:=hzb3.other hg4 p4 (by omega)
  have gw4:=Aw gw3 hg4 (by omega)
  clear hg4 p4 hib3 hdb3 hzb3 hgb3 ha3 gw3
  rw [←HS.out.1] at ha4
  rw [←HS.out.2] at hb4
  have HZ:=Ac hzb4
  obtain ⟨va,Ta,hah,han⟩:=ha4
  obtain ⟨vb,Tb,hbh,hbn⟩:=hb4
  obtain ⟨_,_,_,Tz,_,hzh,_,_⟩:=hzb4
  have a0:=Ay hah 0
  have a1:=Ay hah 1
  have b0:=Ay hbh 0
  have b1:=Ay hbh 1
  have z0:=Ay hzh 0
  have z1:=Ay hzh 1
  have z2:=Ay hzh 2
  have z3:=Ay hzh 3
  have f0:=Bj hzh 0
  have f1:=Bj hzh 1
  have f2:=Bj hzh 2
  have f3:=Bj hzh 3
  rw [decide_eq_false (by omega)] at b0
  simp only [List.getElem?_toArray,List.getElem?_cons_zero,List.getElem?_cons_succ] at a0 a1 b0 b1 z0 z1 z2 z3
  obtain ⟨Aa,ca,rfl,_,_⟩:=han.form
  obtain ⟨Ab,cb,rfl,_,_⟩:=hbn.form
  go_wp2
  go_ret
  have hst:=RatB.stored (q:=n /. d) HZ.out han hbn
  exact ⟨rfl,hst.1,Ae (C0 gw4) hst.2⟩
end
section
open Go.RowKit
open Rat
theorem I9 (w:World) (bn on bd od:Nat) (n d:Int) (hn:IntAt w bn on n) (hd:IntAt w bd od d) (ln:lim n≤549755813888) (ld:lim d≤549755813888) (hd0:d≠0) :
  Calls Tryz.prog 182 #[.pointer (some ⟨bn,on,none⟩),.pointer (some ⟨bd,od,none⟩)] w fun e w'=>∃ b,e=.returned (.pointer (some ⟨b,0,none⟩))∧RatB w' b (n /. d)∧w.heap.size≤b∧w.grownBy w' none:=by
 have gw:=Af w (.cells #[.bool false,.slice none 0 0,.bool false,.slice none 0 0] 190) none
 have hz:=RatB.new w 190
 have hC:=Gs (w.alloc (.cells #[.bool false,.slice none 0 0,.bool false,.slice none 0 0] 190)) w.heap.size bn on bd od 0 n d hz (hn.more gw) (hd.more gw) ln ld hd0
 have HC:=Ac hC
 clear hC
 go_enter Tryz.func182,Tryz.ntmps182
 go_wp2_with fail
 refine HC.out.mono ?_
 rintro e w1 ⟨rfl,hr,hg⟩
 go_wp2
 go_ret
 exact ⟨_,rfl,hr,Nat.le_refl _,Aw gw hg (Nat.le_refl _)⟩
theorem F7 (w:World) (n d:Int) (hn1:-9223372036854775808≤n) (hn2:n≤9223372036854775807) (hd1:-9223372036854775808≤d) (hd2:d≤9223372036854775807) (hd0:d≠0) :
  Calls Tryz.prog 107 #[.int .i64 n,.int .i64 d] w fun e w'=>∃ b,e=.returned (.pointer (some ⟨b,0,none⟩))∧RatB w' b (n /. d)∧w.heap.size≤b∧w.grownBy w' none:=by
 have l1:=Ii hn1 hn2
 have l2:=Ii hd1 hd2
 go_enter Tryz.func107,Tryz.ntmps107
 go_wp2_with fail
 refine (C3 w n hn1 hn2).mono ?_
 rintro e w1 ⟨b1,rfl,hi1,hb1,hg1⟩
 go_wp2_with fail
 refine (C3 w1 d hd1 hd2).mono ?_
 rintro e w2 ⟨b2,rfl,hi2,hb2,hg2⟩
 go_wp2_with fail
 refine (I9 w2 b1 0 b2 0 n d (hi1.more hg2).at hi2.at (by omega) (by omega) hd0).mono ?_
 rintro e w3 ⟨b3,rfl,hi3,hb3,hg3⟩
 go_wp2
 go_ret
 have:=hg1.size
 have:=hg2.size
 exact ⟨_,rfl,hi3,by omega,Ae (Ae hg1 hg2) hg3⟩
set_option maxRecDepth 100000 in
theorem Jg (w:World) (bx:Nat) (q:Rat) (hx:RatB w bx q) (lx:lim q.num≤1099511627776) :
  Calls Tryz.prog 195 #[.pointer (some ⟨bx,0,none⟩)] w fun e w'=>∃ b,e=.returned (.pointer (some ⟨b,0,none⟩))∧IntB w' b q.num∧w.heap.size≤b∧w.grownBy w' none:=by
 have hs:sg (decide (q.num<0)) (val 4294967296 (digs q.num))=q.num:=by rw [By];exact Hp _
 have HS:=Ac hs
 clear hs
 obtain ⟨v,c0,c1,hn⟩:=hx.num
 generalize decide (q.num<0)=neg at *
 go_enter Tryz.func195,Tryz.ntmps195
 go_wp2
 go_still_tail 10,(by kernel_rfl)
 change wpList _ _ _ _ _ w.drew
 go_wp2_with fail
 refine (Nb _ neg v (digs q.num) hn.drew lx).mono ?_
 rintro e w1 ⟨b,rfl,hi,hb,hg⟩
 go_wp2
 go_ret
 rw [HS.out] at hi
 exact ⟨b,rfl,hi,by simpa using hb,B4 hg⟩
theorem C2 (w:World) (bx:Nat) (q:Rat) (hx:RatB w bx q) (lx:lim (q.den:Int)≤1099511627776) :
  Calls Tryz.prog 183 #[.pointer (some ⟨bx,0,none⟩)] w fun e w'=>∃ b,e=.returned (.pointer (some ⟨b,0,none⟩))∧IntB w' b q.den∧w.heap.size≤b∧w.grownBy w' none:=by
 obtain ⟨vn,vd,d,T,h0,hb,hn,hd⟩:=hx
 have c3:=Ay hb 3
 simp only [List.getElem?_toArray,List.getElem?_cons_zero,List.getElem?_cons_succ] at c3
 obtain ⟨A,c,rfl,_,_⟩:=hd.form
 by_cases hz:d=0
 ·have hq:q=0:=by
   rcases h0 with h | h
   ·exact absurd (h▸hz) (Gp q)
   ·exact h.1
  have hl:(digs d).length=0:=by rw [hz];rfl
  have hden:(q.den:Int)=1:=by rw [hq];rfl
  rw [hl] at c3
  rw [hden]
  clear hn hd hb lx
  go_enter Tryz.func183,Tryz.ntmps183
  go_wp2_with fail
  refine (C3 _ 1 (by omega) (by omega)).mono ?_
  rintro e w1 ⟨b,rfl,hi,hb,hg⟩
  go_wp2
  go_ret
  exact ⟨b,rfl,hi,hb,hg⟩
 ·have hdq:d=q.den:=by
   rcases h0 with h | h
   ·exact h
   ·exact absurd h.2 hz
  have hl:(((digs d).length:Nat):Int)≠0:=by
   have h1:(digs d).length≠0:=fun h=>hz ((Sf d).1 h)
   omega
  have t:(((digs d).length:Int)==0)=false:=by simpa using hl
  have hs:sg false (val 4294967296 (digs d))=(q.den:Int):=by rw [By,hdq];simp [sg]
  have hC:=Nb w false _ (digs d) hd (by rw [hdq];exact lx)
  rw [hs] at hC
  have HC:=Ac hC
  have hb:=hd.lt
  clear hs hC hd hn hb hl h0 hdq
  generalize (digs d).length=n at *
  go_enter Tryz.func183,Tryz.ntmps183
  go_wp2_with fail
  refine HC.out.mono ?_
  rintro e w1 ⟨b,rfl,hi,hb,hg⟩
  go_wp2
  go_ret
  exact ⟨b,rfl,hi,hb,hg⟩
theorem Rp (w:World) (bx:Nat) (q:Rat) (hx:RatB w bx q) :
  Calls Tryz.prog 125 #[.pointer (some ⟨bx,0,none⟩)] w fun e w'=>e=.returned (.int .i64 q.num.sign)∧w=w':=by
 go_enter Tryz.func125,Tryz.ntmps125
 go_wp2_with fail
 refine (Id w bx 0 q.num hx.num).mono ?_
 rintro e w1 ⟨rfl,rfl⟩
 go_wp2
 go_ret
 exact ⟨rfl,rfl⟩
theorem W6 (w:World) (bz bx:Nat) (q0 q:Rat) (hz:RatB w bz q0) (hx:RatB w bx q) (h0:q≠0) (lx:LimQ q 549755813888) :
  Calls Tryz.prog 210 #[.pointer (some ⟨bz,0,none⟩),.pointer (some ⟨bx,0,none⟩)] w fun e w'=>e=.returned (.pointer (some ⟨bz,0,none⟩))∧RatB w' bz q⁻¹∧w.grownBy w' (some bz):=by
 have l1:=lx.1
 have l2:=lx.2
 have hn:q.num≠0:=fun h=>h0 (Rat.num_eq_zero.1 h)
 have he:=Ac (Mj q)
 go_enter Tryz.func210,Tryz.ntmps210
 go_wp2_with fail
 refine (C2 w bx q hx (by omega)).mono ?_
 rintro e w1 ⟨b1,rfl,hi1,hb1,hg1⟩
 go_wp2_with fail
 refine (Jg w1 bx q (hx.more hg1) (by omega)).mono ?_
 rintro e w2 ⟨b2,rfl,hi2,hb2,hg2⟩
 go_wp2_with fail
 refine (Gs w2 bz b1 0 b2 0 q0 q.den q.num (hz.more (Ae hg1 hg2)) (hi1.more hg2).at hi2.at l2 l1 hn).mono ?_
 rintro e w3 ⟨rfl,hi3,hg3⟩
 go_wp2
 go_ret
 rw [←he.out] at hi3
 exact ⟨rfl,hi3,Ae (C0 (Ae hg1 hg2)) hg3⟩
end
section
open Go.RowKit
open Rat
abbrev zint (T:TypeId):Obj:=.cells #[.bool false,.slice none 0 0] T
theorem new2 (w:World) (T:TypeId):IntB ((w.alloc (zint T)).alloc (zint T)) w.heap.size 0∧IntB ((w.alloc (zint T)).alloc (zint T)) (w.heap.size+1) 0∧w.grownBy ((w.alloc (zint T)).alloc (zint T)) none:=by
 refine ⟨(IntB.new w T).more (Af _ _ _),?_,Ae (Af _ _ _) (Af _ _ _)⟩
 have:=IntB.new (w.alloc (zint T)) T
 rwa [World.size_alloc] at this
theorem new3 (w:World) (T:TypeId):IntB (((w.alloc (zint T)).alloc (zint T)).alloc (zint T)) w.heap.size 0∧IntB (((w.alloc (zint T)).alloc (zint T)).alloc (zint T)) (w.heap.size+1) 0∧IntB (((w.alloc (zint T)).alloc (zint T)).alloc (zint T)) (w.heap.size+2) 0∧w.grownBy (((w.alloc (zint T)).alloc (zint T)).alloc (zint T)) none:=by
 obtain ⟨a,b,g⟩:=new2 w T
 refine ⟨a.more (Af _ _ _),b.more (Af _ _ _),?_,Ae g (Af _ _ _)⟩
 have:=IntB.new ((w.alloc (zint T)).alloc (zint T)) T
 rwa [World.size_alloc,World.size_alloc] at this
set_option maxRecDepth 100000 in
theorem Gk (w:World) (bz bx by':Nat) (q0 p q:Rat) (hz:RatB w bz q0) (hx:RatB w bx p) (hy:RatB w by' q) (k:Nat) (hk:2*k+1≤549755813888) (lx:LimQ p k) (ly:LimQ q k) :
    Calls Tryz.prog 105 #[.pointer (some ⟨bz,0,none⟩),.pointer (some ⟨bx,0,none⟩),.pointer (some ⟨by',0,none⟩)] w fun e w'=>e=.returned (.pointer (some ⟨bz,0,none⟩))∧RatB w' bz (p+q)∧w.grownBy w' (some bz):=by
  have lp1:=lx.1
  have lp2:=lx.2
  have lq1:=ly.1
  have lq2:=ly.2
  have xlt:=hx.lt
  have ylt:=hy.lt
  have zlt:=hz.lt
  have hN:=new3 w 158
  go_enter Tryz.func105,Tryz.ntmps105
  go_wp2
  generalize (((w.alloc (zint 158)).alloc (zint 158)).alloc (zint 158))=w1 at *
  obtain ⟨ha,hb,hd,g1⟩:=hN
  have hx1:=hx.more g1
  have hy1:=hy.more g1
  generalize hs:w.heap.size=s at *
  go_region_held3 (fun _=>True) (first | go_keep | trivial)
    (first
     | (go_at_call 183;refine (C2 _ by' q hy1.drew (by omega)).mono ?_;rintro e w2 ⟨b2,rfl,hi2,hb2,hg2⟩)
     | (go_at_call 73;refine (Ct w2 s bx 0 b2 0 0 p.num q.den (ha.more (B4 hg2)) (hx1.more (B4 hg2)).num hi2.at (by omega) (by omega)).mono ?_;rintro e w3 ⟨rfl,hi3,hg3⟩))
  have g2:=B4 hg2
  have hb2':=hb.more g2
  have hd2':=hd.more g2
  have hp2:=(ha.more g2).plain
  have g3:=Aw (Ae g1 g2) hg3 (by omega)
  have b3:=hb2'.other hg3 hp2 (by omega)
  have d3:=hd2'.other hg3 hp2 (by omega)
  clear hb2 hg2 hg3 hi2 g2 hb2' hd2' hp2 hx1 hy1 ha hb hd g1
  have hx3:=hx.more g3
  have hy3:=hy.more g3
  go_wp2
  go_region_held3 (fun _=>True) (first | go_keep | trivial)
    (first
     | (go_at_call 183;refine (C2 _ bx p hx3.drew (by omega)).mono ?_;rintro e w4 ⟨b4,rfl,hi4,hb4,hg4⟩)
     | (go_at_call 73;refine (Ct w4 (s+1) by' 0 b4 0 0 q.num p.den (b3.more (B4 hg4)) (hy3.more (B4 hg4)).num hi4.at (by omega) (by omega)).mono ?_;rintro e w5 ⟨rfl,hi5,hg5⟩))
  have g4:=B4 hg4
  have hp4:=(b3.more g4).plain
  have g5:=Aw (Ae g3 g4) hg5 (by omega)
  have a5:=(hi3.more g4).other hg5 hp4 (by omega)
  have d5:=(d3.more g4).other hg5 hp4 (by omega)
  clear hb4 hg4 hg5 hi4 g4 hp4 hx3 hy3 hi3 b3 d3 g3
  go_wp2_with fail
  refine (C2 w5 bx p (hx.more g5) (by omega)).mono ?_
  rintro e w6 ⟨b6,rfl,hi6,hb6,hg6⟩
  go_wp2_with fail
  refine (C2 w6 by' q (hy.more (Ae g5 hg6)) (by omega)).mono ?_
  rintro e w7 ⟨b7,rfl,hi7,hb7,hg7⟩
  have g67:=Ae hg6 hg7
  have d7:=d5.more g67
  have i6:=hi6.more hg7
  go_wp2_with fail
  refine (Ct w7 (s+1+1) b6 0 b7 0 0 p.den q.den d7 i6.at hi7.at (by omega) (by omega)).mono ?_
  rintro e w8 ⟨rfl,hi8,hg8⟩
  have g8:=Aw (Ae g5 g67) hg8 (by omega)
  have a8:=(a5.more g67).other hg8 d7.plain (by omega)
  have b8:=(hi5.more g67).other hg8 d7.plain (by omega)
  clear hb6 hb7 hi6 hi7 hg6 hg7 hg8 g67 d7 i6 a5 hi5 d5 g5
  have m1:=C9 p.num q.den
  have m2:=C9 q.num p.den
  have m3:=C9 p.den q.den
  go_wp2_with fail
  refine (Ge w8 s s 0 (s+1) 0 (p.num*q.den) (p.num*q.den) (q.num*p.den) a8 a8.at b8.at (by omega) (by omega)).mono ?_
  rintro e w9 ⟨rfl,hi9,hg9⟩
  have d9:=hi8.other hg9 a8.plain (by omega)
  have g9:=Aw g8 hg9 (by omega)
  have m4:lim (p.num*q.den+q.num*p.den)≤2*k+1:=Mz (by omega) (by omega)
  clear hg9 hi8 a8 b8 g8
  go_wp2_with fail
  refine (Gs w9 bz s 0 (s+1+1) 0 q0 (p.num*q.den+q.num*p.den) (p.den*q.den) (hz.more g9) hi9.at d9.at (by omega) (by omega) (Gn p q)).mono ?_
  rintro e w10 ⟨rfl,hi10,hg10⟩
  rw [←If] at hi10
  go_wp2
  go_ret
  exact ⟨rfl,hi10,Ae (C0 g9) hg10⟩
set_option maxRecDepth 100000 in
theorem Gl (w:World) (bz bx by':Nat) (q0 p q:Rat) (hz:RatB w bz q0) (hx:RatB w bx p) (hy:RatB w by' q) (k:Nat) (hk:2*k≤549755813888) (lx:LimQ p k) (ly:LimQ q k) :
  Calls Tryz.prog 106 #[.pointer (some ⟨bz,0,none⟩),.pointer (some ⟨bx,0,none⟩),.pointer (some ⟨by',0,none⟩)] w fun e w'=>e=.returned (.pointer (some ⟨bz,0,none⟩))∧RatB w' bz (p*q)∧w.grownBy w' (some bz):=by
 have lp1:=lx.1
 have lp2:=lx.2
 have lq1:=ly.1
 have lq2:=ly.2
 have xlt:=hx.lt
 have ylt:=hy.lt
 have zlt:=hz.lt
 have hN:=new2 w 158
 go_enter Tryz.func106,Tryz.ntmps106
 go_wp2
 generalize ((w.alloc (zint 158)).alloc (zint 158))=w1 at *
 obtain ⟨ha,hb,g1⟩:=hN
 generalize hs:w.heap.size=s at *
 have hx1:=hx.more g1
 have hy1:=hy.more g1
 go_still_tail 6,(by kernel_rfl)
 change wpList _ _ _ _ _ w1.drew
 go_wp2_with fail
 refine (Ct w1.drew s bx 0 by' 0 0 p.num q.num ha.drew hx1.drew.num hy1.drew.num (by omega) (by omega)).mono ?_
 rintro e w3 ⟨rfl,hi3,hg3⟩
 have g3:=Aw (Ae g1 (Ai _ _)) hg3 (by omega)
 have b3:=hb.drew.other hg3 ha.drew.plain (by omega)
 clear hg3 hx1 hy1 ha hb g1
 go_wp2_with fail
 refine (C2 w3 bx p (hx.more g3) (by omega)).mono ?_
 rintro e w6 ⟨b6,rfl,hi6,hb6,hg6⟩
 go_wp2_with fail
 refine (C2 w6 by' q (hy.more (Ae g3 hg6)) (by omega)).mono ?_
 rintro e w7 ⟨b7,rfl,hi7,hb7,hg7⟩
 have g67:=Ae hg6 hg7
 have d7:=b3.more g67
 have i6:=hi6.more hg7
 go_wp2_with fail
 refine (Ct w7 (s+1) b6 0 b7 0 0 p.den q.den d7 i6.at hi7.at (by omega) (by omega)).mono ?_
 rintro e w8 ⟨rfl,hi8,hg8⟩
 have g8:=Aw (Ae g3 g67) hg8 (by omega)
 have a8:=(hi3.more g67).other hg8 d7.plain (by omega)
 clear hb6 hb7 hi6 hi7 hg6 hg7 hg8 g67 d7 i6 hi3 g3
 have m1:=C9 p.num q.num
 have m3:=C9 p.den q.den
 go_wp2_with fail
 refine (Gs w8 bz s 0 (s+1) 0 q0 (p.num*q.num) (p.den*q.den) (hz.more g8) a8.at hi8.at (by omega) (by omega) (Gn p q)).mono ?_
 rintro e w10 ⟨rfl,hi10,hg10⟩
 rw [←Kc] at hi10
 go_wp2
 go_ret
 exact ⟨rfl,hi10,Ae (C0 g8) hg10⟩
end
section
open Go.RowKit
open Rat
theorem A0a (p q:Rat):(p.num*q.den-q.num*p.den).sign=if p<q then -1 else if p=q then 0 else 1:=by
 by_cases h:p<q
 ·rw [if_pos h]
  have:=(Rat.lt_iff p q).1 h
  exact Int.sign_eq_neg_one_of_neg (by omega)
 ·rw [if_neg h]
  have h':=mt (Rat.lt_iff p q).2 h
  by_cases e:p=q
  ·rw [if_pos e,e];simp
  ·rw [if_neg e]
   have h2:¬ q<p→False:=fun h3=>e (Rat.le_antisymm (Rat.not_lt.1 h3) (Rat.not_lt.1 h))
   have h4:q<p:=Classical.byContradiction h2
   have:=(Rat.lt_iff q p).1 h4
   exact Int.sign_eq_one_of_pos (by omega)
set_option maxRecDepth 100000 in
theorem U5 (w:World) (bx by':Nat) (p q:Rat) (hx:RatB w bx p) (hy:RatB w by' q) (k:Nat) (hk:2*k≤549755813888) (lx:LimQ p k) (ly:LimQ q k) :
    Calls Tryz.prog 127 #[.pointer (some ⟨bx,0,none⟩),.pointer (some ⟨by',0,none⟩)] w fun e w'=>e=.returned (.int .i64 (if p<q then -1 else if p=q then 0 else 1))∧w.grownBy w' none:=by
  have HE:=Ac (A0a p q)
  generalize (if p<q then (-1:Int) else if p=q then 0 else 1)=res at *
  have lp1:=lx.1
  have lp2:=lx.2
  have lq1:=ly.1
  have lq2:=ly.2
  have xlt:=hx.lt
  have ylt:=hy.lt
  have hN:=new2 w 158
  go_enter Tryz.func127,Tryz.ntmps127
  go_wp2
  generalize ((w.alloc (zint 158)).alloc (zint 158))=w1 at *
  obtain ⟨ha,hb,g1⟩:=hN
  generalize hs:w.heap.size=s at *
  have hx1:=hx.more g1
  have hy1:=hy.more g1
  go_region_held3 (fun _=>True) (first | go_keep | trivial)
    (first
     | (go_at_call 183;refine (C2 _ by' q hy1.drew (by omega)).mono ?_;rintro e w2 ⟨b2,rfl,hi2,hb2,hg2⟩)
     | (go_at_call 73;refine (Ct w2 s bx 0 b2 0 0 p.num q.den (ha.more (B4 hg2)) (hx1.more (B4 hg2)).num hi2.at (by omega) (by omega)).mono ?_;rintro e w3 ⟨rfl,hi3,hg3⟩))
  have g2:=B4 hg2
  have hb2':=hb.more g2
  have hp2:=(ha.more g2).plain
  have g3:=Aw (Ae g1 g2) hg3 (by omega)
  have b3:=hb2'.other hg3 hp2 (by omega)
  clear hb2 hg2 hg3 hi2 g2 hb2' hp2 hx1 hy1 ha hb g1
  have hx3:=hx.more g3
  have hy3:=hy.more g3
  go_wp2
  go_region_held3 (fun _=>True) (first | go_keep | trivial)
    (first
     | (go_at_call 183;refine (C2 _ bx p hx3.drew (by omega)).mono ?_;rintro e w4 ⟨b4,rfl,hi4,hb4,hg4⟩)
     | (go_at_call 73;refine (Ct w4 (s+1) by' 0 b4 0 0 q.num p.den (b3.more (B4 hg4)) (hy3.more (B4 hg4)).num hi4.at (by omega) (by omega)).mono ?_;rintro e w5 ⟨rfl,hi5,hg5⟩))
  have g4:=B4 hg4
  have hp4:=(b3.more g4).plain
  have g5:=Aw (Ae g3 g4) hg5 (by omega)
  have a5:=(hi3.more g4).other hg5 hp4 (by omega)
  clear hb4 hg4 hg5 hi4 g4 hp4 hx3 hy3 hi3 b3 g3
  go_wp2_with fail
  refine (P8 w5 s 0 (s+1) 0 (p.num*q.den) (q.num*p.den) a5.at hi5.at).mono ?_
  rintro e w10 ⟨rfl,n,rfl⟩
  go_wp2
  go_ret
  rw [HE.out]
  exact ⟨rfl,Ae g5 (Az _ _ _)⟩
theorem RatB.room {w:World} {b:Nat} {q:Rat} (h:RatB w b q):∃ x0 x1 x2 x3,w.cell? ⟨b,0,none⟩=some x0∧(∀ v,(w.setCell ⟨b,0,none⟩ v).cell? ⟨b,1,none⟩=some x1)∧(∀ v u,((w.setCell ⟨b,0,none⟩ v).setCell ⟨b,1,none⟩ u).cell? ⟨b,2,none⟩=some x2)∧(∀ v u t,(((w.setCell ⟨b,0,none⟩ v).setCell ⟨b,1,none⟩ u).setCell ⟨b,2,none⟩ t).cell? ⟨b,3,none⟩=some x3)∧w.frozen? ⟨b,0,none⟩=false∧(∀ v,(w.setCell ⟨b,0,none⟩ v).frozen? ⟨b,1,none⟩=false)∧(∀ v u,((w.setCell ⟨b,0,none⟩ v).setCell ⟨b,1,none⟩ u).frozen? ⟨b,2,none⟩=false)∧(∀ v u t,(((w.setCell ⟨b,0,none⟩ v).setCell ⟨b,1,none⟩ u).setCell ⟨b,2,none⟩ t).frozen? ⟨b,3,none⟩=false):=by
 obtain ⟨vn,vd,d,T,_,hb,_,_⟩:=h
 refine ⟨.bool (decide (q.num<0)),vn,.bool false,vd,?_,fun v=>?_,fun v u=>?_,fun v u t=>?_,Bj hb 0,fun v=>Bj (C4 hb v) 1,fun v u=>Bj (C4 (C4 hb v) u) 2,fun v u t=>Bj (C4 (C4 (C4 hb v) u) t) 3⟩
 ·rw [Ay hb];rfl
 ·rw [Ay (C4 hb v)];rfl
 ·rw [Ay (C4 (C4 hb v) u)];rfl
 ·rw [Ay (C4 (C4 (C4 hb v) u) t)];rfl
set_option maxRecDepth 100000 in
theorem Nc (w:World) (bz bx:Nat) (q0 q:Rat) (hz:RatB w bz q0) (hx:RatB w bx q) (lx:LimQ q 1099511627776) :
  Calls Tryz.prog 126 #[.pointer (some ⟨bz,0,none⟩),.pointer (some ⟨bx,0,none⟩)] w fun e w'=>e=.returned (.pointer (some ⟨bz,0,none⟩))∧RatB w' bz (-q)∧w.grownBy w' (some bz):=by
 have l1:=lx.1
 have l2:=lx.2
 have hn:-q.num=(-q).num:=(Rat.neg_num q).symm
 have hd:(q.den:Int)=((-q).den:Int):=by rw [Rat.neg_den]
 have HN:=Ac hn
 have HD:=Ac hd
 clear hn hd
 have zlt:=hz.lt
 go_enter Tryz.func126,Tryz.ntmps126
 go_wp2_with fail
 refine (Jg w bx q hx (by omega)).mono ?_
 rintro e w1 ⟨b1,rfl,hi1,hb1,hg1⟩
 go_wp2_with fail
 refine (C2 w1 bx q (hx.more hg1) (by omega)).mono ?_
 rintro e w2 ⟨b2,rfl,hi2,hb2,hg2⟩
 have g2:=Ae hg1 hg2
 have i1:=hi1.more hg2
 have z2:=hz.more g2
 have s1:=hi1.lt
 clear hi1
 obtain ⟨vd,Td,hdh,hdn⟩:=hi2
 have d0:=Ay hdh 0
 have d1:=Ay hdh 1
 rw [decide_eq_false (by omega)] at d0
 simp only [List.getElem?_toArray,List.getElem?_cons_zero,List.getElem?_cons_succ] at d0 d1
 have s1':=hg1.size
 obtain ⟨Ad,cd,rfl,_,_⟩:=hdn.form
 have HZ:=Ac z2
 have hne:b2≠bz:=by omega
 have hne1:b1≠bz:=by omega
 have hne2:b2≠b1:=by omega
 clear hdh
 go_wp2
 go_region_with
  ((go_at_call 180;refine (W8 _ b1 b1 0 q.num q.num i1.drew i1.drew.at).mono ?_;rintro e w3 ⟨rfl,hi3,hg3⟩;obtain ⟨vn,Tn,hnh,hnn⟩:=hi3;obtain ⟨An,cn,rfl,_,_⟩:=hnn.form;have n0:=Ay hnh 0;have n1:=Ay hnh 1;obtain ⟨x0,x1,x2,x3,z0,z1,z2,z3,f0,f1,f2,f3⟩:=(HZ.out.drew.other hg3 i1.drew.plain (by omega)).room;simp only [List.getElem?_toArray,List.getElem?_cons_zero,List.getElem?_cons_succ] at n0 n1;have dd0:=Aj hg3 (Aj (Ai w2 none) d0 (by simp)) (by simp;omega);have dd1:=Aj hg3 (Aj (Ai w2 none) d1 (by simp)) (by simp;omega);clear hnh))
 all_goals
  go_wp2
  go_ret
  have hst:=RatB.stored (q:=-q) (HZ.out.drew.other hg3 i1.drew.plain (by omega)) (by rw [←HN.out];exact hnn) (by rw [←HD.out];exact hdn.drew.other hg3 i1.drew.plain)
  rw [show decide ((-q).num<0)=decide (0<q.num) by rw [Rat.neg_num,decide_eq_decide];omega] at hst
  exact ⟨rfl,hst.1,Ae (C0 (Aw g2 (B4 hg3) (by omega))) hst.2⟩
theorem U6 (w:World) (bz bx by':Nat) (q0 p q:Rat) (hz:RatB w bz q0) (hx:RatB w bx p) (hy:RatB w by' q) (k:Nat) (hk:2*k+1≤549755813888) (lx:LimQ p k) (ly:LimQ q k) :
  Calls Tryz.prog 188 #[.pointer (some ⟨bz,0,none⟩),.pointer (some ⟨bx,0,none⟩),.pointer (some ⟨by',0,none⟩)] w fun e w'=>e=.returned (.pointer (some ⟨bz,0,none⟩))∧RatB w' bz (p-q)∧w.grownBy w' (some bz):=by
 have gw:=Af w (.cells #[.bool false,.slice none 0 0,.bool false,.slice none 0 0] 190) none
 have hn:=RatB.new w 190
 have ln:LimQ (-q) k:=ly.neg
 have ly':LimQ q 1099511627776:=ly.mono (by omega)
 have hE:=Ac (Rat.sub_eq_add_neg p q)
 have hy1:=hy.more gw
 have hx1:=hx.more gw
 have hz1:=hz.more gw
 have xlt:=hx.lt
 have zlt:=hz.lt
 go_enter Tryz.func188,Tryz.ntmps188
 go_wp2_with fail
 refine (Nc _ w.heap.size by' 0 q hn hy1 ly').mono ?_
 rintro e w1 ⟨rfl,hr,hg⟩
 go_wp2_with fail
 refine (Gk w1 bz bx w.heap.size q0 p (-q) (hz1.other hg hn.plain (by omega)) (hx1.other hg hn.plain (by omega)) hr k hk lx ln).mono ?_
 rintro e w2 ⟨rfl,hr2,hg2⟩
 rw [←hE.out] at hr2
 go_wp2
 go_ret
 exact ⟨rfl,hr2,Ae (C0 (Aw gw hg (Nat.le_refl _))) hg2⟩
end
section
open Go.RowKit
theorem Ug {xs:List Nat} {m:Nat} (hb:∀ e∈xs,e<4294967296) (h2:xs.length≤2) (hm:m+1≤xs.length):val 4294967296 (xs.drop (m+1))<4294967296:=by
 match xs,h2,hb,hm with
 | [],_,_,hm=>simp at hm
 | [a],_,_,hm =>
  obtain rfl:m=0:=by simp at hm;omega
  simp [val]
 | [a,b],_,hb,hm =>
  have h1:=hb b (by simp)
  match m,hm with
  | 0,_=>simpa [val] using h1
  | 1,_=>simp [val]
  | _+2,hm=>simp at hm
theorem Hg (w:World) (bx ox:Nat) (x:Int) (hx:IntAt w bx ox x) :
  Calls Tryz.prog 266 #[.pointer (some ⟨bx,ox,none⟩)] w fun e w'=>(∃ v:Int,e=.returned (.tuple #[.int .i64 v,.bool (decide (-9223372036854775808≤x∧x≤9223372036854775807))])∧(-9223372036854775808≤x→x≤9223372036854775807→v=x)∧-9223372036854775808≤v∧v≤9223372036854775807)∧w=w':=by
 obtain ⟨vx,c0,c1,hn⟩:=hx
 have bxs:=hn.lt
 have hv:val 4294967296 (digs x)=x.natAbs:=By x
 have hb:=fun e he=>Ev 4294967296 (by omega) x.natAbs e he
 have hb':∀ e∈digs x,e<4294967296:=hb
 have hl:(digs x).length≤2↔x.natAbs<18446744073709551616:=Ek x 2
 obtain ⟨A,c,rfl,h1,h2,hA⟩:=hn.read
 have HL:=Ac hl
 have HV:=Ac hv
 have HB:=Ac hb'
 clear hb hb' hl hv hn
 generalize digs x=xs at *
 by_cases hl2:xs.length≤2
 ·have hx64:x.natAbs<18446744073709551616:=HL.out.1 hl2
  generalize hneg:decide (x<0)=neg at *
  have HN:=Ac hneg
  clear hneg
  go_enter Tryz.func266,Tryz.ntmps266
  go_wp2
  go_loopw [4,5] (fun u i wr=>∃ (k r:Nat),k≤xs.length∧i=.int .i64 ((k:Int)-1)∧u=.int .u64 r∧w=wr∧Hid (r=val 4294967296 (xs.drop k))) (fun _ i _=>(intOf i+1).toNat)
  case atStart=>exact ⟨xs.length,0,by omega,rfl,rfl,rfl,Ac (by simp [val])⟩
  case round =>
   obtain ⟨k,r,hk,rfl,rfl,rfl,hr⟩:=hrel
   by_cases hlt:0<k
   ·obtain ⟨m,rfl⟩:∃ m,k=m+1:=⟨k-1,by omega⟩
    obtain ⟨b,o,rfl,hc⟩:=hA (by omega)
    have g1:=hc m (by omega)
    have b1:=bxs m
    have hd:=Hf 4294967296 xs m (by omega)
    have hsm:=Ug HB.out hl2 (show m+1≤xs.length by omega)
    rw [←hr.out] at hd hsm
    generalize xs[m]?.getD 0=d at g1 b1 hd
    have HD:=Ac hd
    clear hc hA bxs hd hx64
    have e1:(((m+1:Nat):Int)-1)=(m:Int):=by omega
    rw [e1]
    have e2:=Qw r d hsm b1
    clear hr e1
    go_wp2
    exact ⟨⟨m,r*4294967296+d,by omega,rfl,Bl (by omega),trivial,Ac (by rw [HD.out];omega)⟩,by simp [intOf]⟩
   ·obtain rfl:k=0:=by omega
    have hrv:r=x.natAbs:=by rw [hr.out,List.drop_zero,HV.out]
    have hru:r<18446744073709551616:=by omega
    have HR:=Ac hrv
    clear hrv hr hA hx64
    cases neg with
    | false =>
     have hx0:0≤x:=by have:=HN.out;simpa using this
     have HX:=Ac hx0
     clear hx0
     go_wp2
     go_ret2
     have:=HX.out
     have:=HR.out
     refine ⟨⟨wrap64 (r:Int),congrArg Ending.returned (congrArg Value.tuple (congrArg (fun b=>#[Value.int .i64 (wrap64 (r:Int)),.bool b]) ?_)),?_,?_,?_⟩,rfl⟩
     ·rw [decide_eq_decide];omega
     ·intro _ _
      unfold wrap64;omega
     ·unfold wrap64;omega
     ·unfold wrap64;omega
    | true =>
     have hx0:x<0:=by have:=HN.out;simpa using this
     have HX:=Ac hx0
     clear hx0
     go_wp2
     go_ret2
     have:=HX.out
     have:=HR.out
     refine ⟨⟨wrap64 (-wrap64 (r:Int)),congrArg Ending.returned (congrArg Value.tuple (congrArg (fun b=>#[Value.int .i64 (wrap64 (-wrap64 (r:Int))),.bool b]) ?_)),?_,?_,?_⟩,rfl⟩
     ·rw [decide_eq_decide];omega
     ·intro _ _
      unfold wrap64;omega
     ·unfold wrap64;omega
     ·unfold wrap64;omega
 ·have hx64:¬ x.natAbs<18446744073709551616:=fun h=>hl2 (HL.out.2 h)
  have HX:=Ac hx64
  clear hx64 hA
  go_enter Tryz.func266,Tryz.ntmps266
  go_wp2
  go_ret2
  have:=HX.out
  refine ⟨⟨0,congrArg Ending.returned (congrArg Value.tuple (congrArg (fun b=>#[Value.int .i64 0,.bool b]) ?_)),?_,by omega,by omega⟩,rfl⟩
  ·symm;rw [decide_eq_false_iff_not];omega
  ·omega
theorem Pa (w:World) (k:Nat) (hk:k≤1000000000) :
  Calls Tryz.prog 246 #[.int .i64 k] w fun e w'=>∃ b,e=.returned (.pointer (some ⟨b,0,none⟩))∧IntB w' b (10 ^ k)∧w.heap.size≤b∧w.grownBy w' none:=by
 go_enter Tryz.func246,Tryz.ntmps246
 go_wp2_with fail
 refine (C3 w 1 (by omega) (by omega)).mono ?_
 rintro e w1 ⟨b1,rfl,hi1,hb1,hg1⟩
 go_wp2_with fail
 refine (C3 w1 10 (by omega) (by omega)).mono ?_
 rintro e w2 ⟨b2,rfl,hi2,hb2,hg2⟩
 have i1:=hi1.more hg2
 have g2:=Ae hg1 hg2
 have hne:b2≠b1:=by have:=hi1.lt;omega
 clear hi1 hg1 hg2
 go_wp2
 go_loopw [8] (fun i wr=>∃ (j:Nat),j≤k∧i=.int .i64 j∧IntB wr b1 (10 ^ j)∧IntB wr b2 10∧w.grownBy wr none) (fun i _=>(k-intOf i).toNat)
 case atStart=>exact ⟨0,by omega,rfl,i1,hi2,g2⟩
 case round =>
  obtain ⟨j,hj,rfl,h1,h2,hg⟩:=hrel
  clear i1 hi2 g2
  by_cases hlt:j<k
  ·have hl:lim ((10:Int) ^ j)≤1099511627776:=by
    have:lim ((10:Int) ^ j)≤j+1:=by
     rw [Ek,Int.natAbs_pow]
     exact Nat.lt_of_le_of_lt (Nat.pow_le_pow_left (by decide) j) (Nat.pow_lt_pow_right (by decide) (by omega))
    omega
   go_wp2_with fail
   refine (Ct wr b1 b1 0 b2 0 _ _ 10 h1 h1.at h2.at hl (by decide)).mono ?_
   rintro e w3 ⟨rfl,h3,hg3⟩
   go_wp2
   refine ⟨⟨j+1,by omega,Bl (by omega),by rw [Int.pow_succ];exact h3,h2.other hg3 h1.plain hne,Aw hg hg3 hb1⟩,by simp [intOf];omega⟩
  ·obtain rfl:j=k:=by omega
   go_wp2
   go_ret
   exact ⟨_,rfl,h1,hb1,hg⟩
end
section
open Go.RowKit
open Rat
def Blk (w:World) (b:Nat) (cs:Array Value):Prop:=∃ T,w.heap[b]? = some (.cells cs T (0,0))
theorem Blk.lt {w:World} {b:Nat} {cs:Array Value} (h:Blk w b cs):b<w.heap.size:=by obtain ⟨T,h⟩:=h;exact Dq h
theorem Blk.new (w:World) (cs:Array Value) (T:TypeId):Blk (w.alloc (.cells cs T)) w.heap.size cs:=⟨T,Bi _ _⟩
theorem Blk.more {w w':World} {b:Nat} {cs:Array Value} (h:Blk w b cs) (hg:w.grownBy w' none):Blk w' b cs:=by
 obtain ⟨T,h⟩:=h;exact ⟨T,Do hg h (by simp)⟩
theorem Blk.other {w w':World} {b r:Nat} {cs:Array Value} (h:Blk w b cs) (hg:w.grownBy w' (some r)) (hne:b≠r):Blk w' b cs:=by
 obtain ⟨T,h⟩:=h;exact ⟨T,Do hg h (by simpa using hne)⟩
theorem Blk.cell {w:World} {b:Nat} {cs:Array Value} (h:Blk w b cs) (o:Nat):w.cell? ⟨b,o,none⟩=cs[o]?:=by obtain ⟨T,h⟩:=h;exact Ay h o
theorem Blk.free {w:World} {b:Nat} {cs:Array Value} (h:Blk w b cs) (o:Nat):w.frozen? ⟨b,o,none⟩=false:=by obtain ⟨T,h⟩:=h;exact Bj h o
theorem Blk.set {w:World} {b:Nat} {cs:Array Value} (h:Blk w b cs) (o:Nat) (v:Value):Blk (w.setCell ⟨b,o,none⟩ v) b (cs.setIfInBounds o v):=by obtain ⟨T,h⟩:=h;exact ⟨T,C4 h v⟩
theorem Blk.drew {w:World} {b:Nat} {cs:Array Value} (h:Blk w b cs):Blk w.drew b cs:=h.more (Ai _ _)
theorem Blk.two {w:World} {b:Nat} {x y:Value} (h:Blk w b #[x,y]):w.cell? ⟨b,0,none⟩=some x∧w.cell? ⟨b,1,none⟩=some y∧w.frozen? ⟨b,0,none⟩=false∧w.frozen? ⟨b,1,none⟩=false :=
 ⟨h.cell 0,h.cell 1,h.free 0,h.free 1⟩
theorem Blk.four {w:World} {b:Nat} {x y z u:Value} (h:Blk w b #[x,y,z,u]):w.cell? ⟨b,0,none⟩=some x∧w.cell? ⟨b,1,none⟩=some y∧w.cell? ⟨b,2,none⟩=some z∧w.cell? ⟨b,3,none⟩=some u∧w.frozen? ⟨b,0,none⟩=false∧w.frozen? ⟨b,1,none⟩=false∧w.frozen? ⟨b,2,none⟩=false∧w.frozen? ⟨b,3,none⟩=false :=
 ⟨h.cell 0,h.cell 1,h.cell 2,h.cell 3,h.free 0,h.free 1,h.free 2,h.free 3⟩
theorem Nums.ctor {w:World} {v:Value} {xs:List Nat} (h:Nums w v xs):∃ A n c,v=.slice A n c:=by
 obtain ⟨A,c,rfl,_⟩:=h.form
 exact ⟨_,_,_,rfl⟩
theorem Dn (w:World) (neg:Bool) (v:Value) (xs:List Nat) (hx:Nums w v xs) (lx:xs.length≤1099511627776) :
  Calls Tryz.prog 71 #[.agg #[.bool neg,v]] w fun e w'=>∃ b,e=.returned (.pointer (some ⟨b,0,none⟩))∧IntB w' b (sg neg (val 4294967296 xs))∧w.heap.size≤b∧w.grownBy w' none:=by
 obtain ⟨A,n,c,rfl⟩:=hx.ctor
 go_enter Tryz.func71,Tryz.ntmps71
 go_wp2_with fail
 refine (Nb _ neg _ xs (hx.more (Af _ _ _)) lx).mono ?_
 rintro e w1 ⟨b,rfl,hi,hb,hg⟩
 go_wp2
 go_ret
 exact ⟨b,rfl,hi,by simp at hb;omega,Ae (Af _ _ _) hg⟩
theorem E6 (w:World) (bx ox:Nat) (x:Int) (hx:IntAt w bx ox x) (lx:lim x≤1099511627776) :
  Calls Tryz.prog 76 #[.pointer (some ⟨bx,ox,none⟩)] w fun e w'=>∃ v,e=.returned (.agg #[.bool (decide (x<0)),v])∧Nums w' v (digs x)∧From w.heap.size v∧w.grownBy w' none:=by
 have gw:=Af w (zint 49) none
 have hB:=Blk.new w #[.bool false,.slice none 0 0] 49
 have hx1:=hx.more gw
 go_enter Tryz.func76,Tryz.ntmps76
 go_wp2_with fail
 refine (Id _ bx ox x hx1).mono ?_
 rintro e w1 ⟨rfl,rfl⟩
 go_wp2_with fail
 refine (Rr _ bx ox x hx1 lx).mono ?_
 rintro e w2 ⟨v,rfl,hn,hf,hg⟩
 obtain ⟨A,n,c,rfl⟩:=hn.ctor
 have hB2:=hB.more hg
 obtain ⟨c0,c1,f0,f1⟩:=hB2.two
 clear hB hx1
 go_wp2
 try simp only [Exit.inBlock,Exit.then]
 have hg3:w2.grownBy ((w2.setCell ⟨w.heap.size,0,none⟩ (.bool (decide (x<0)))).setCell ⟨w.heap.size,1,none⟩ (.slice A n c)) (some w.heap.size):=Ae (Au _ _ _ _) (Au _ _ _ _)
 refine bodyPost_ret (v:=.agg #[.bool (decide (x<0)),.slice A n c]) (by simp [results,Tryz.results76,go_sem,c0,c1]) rfl ⟨_,rfl,?_,?_,?_⟩
 ·exact hn.apart hg3 (fun e=>by have:=hf _ e;simp at this;omega)
 ·exact hf.mono (by simp)
 ·exact Aw (Ae gw hg) hg3 (Nat.le_refl _)
theorem I1 (b:Bool) (n:Nat):(sg b n).natAbs=n:=by unfold sg;cases b<;>simp
theorem Ij {neg:Bool} {xs:List Nat} (h:∀ x∈xs,x<4294967296):lim (sg neg (val 4294967296 xs))≤xs.length:=by
 rw [Ek,I1]
 exact Ef 4294967296 xs h
theorem Qf (w:World) (bx ox:Nat) (x:Int) (hx:IntAt w bx ox x) :
  Calls Tryz.prog 75 #[.pointer (some ⟨bx,ox,none⟩)] w fun e w'=>e=.returned (.int .i64 (lim x))∧w=w':=by
 go_enter Tryz.func75,Tryz.ntmps75
 go_wp2_with fail
 refine (Ri w bx ox x hx).mono ?_
 rintro e w1 ⟨rfl,rfl⟩
 go_wp2
 go_ret
 exact ⟨rfl,rfl⟩
set_option maxRecDepth 100000 in
theorem Et (w:World) (n1 n2:Bool) (v1 v2:Value) (xs ys:List Nat) (hx:Nums w v1 xs) (hy:Nums w v2 ys) (lx:xs.length≤549755813888) (ly:ys.length≤549755813888) (h0:val 4294967296 ys≠0) :
    Calls Tryz.prog 124 #[.agg #[.bool n1,v1,.bool n2,v2]] w fun e w'=>∃ b,e=.returned (.pointer (some ⟨b,0,none⟩))∧RatB w' b (sg n1 (val 4294967296 xs) /. sg n2 (val 4294967296 ys))∧w.heap.size≤b∧w.grownBy w' none:=by
  obtain ⟨A1,m1,c1,rfl⟩:=hx.ctor
  obtain ⟨A2,m2,c2,rfl⟩:=hy.ctor
  have gw:=Af w (.cells #[.bool n1,.slice A1 m1 c1,.bool n2,.slice A2 m2 c2] 94) none
  have hB:=Blk.new w #[.bool n1,.slice A1 m1 c1,.bool n2,.slice A2 m2 c2] 94
  have hx1:=hx.more gw
  have hy1:=hy.more gw
  have L1:lim (sg n1 (val 4294967296 xs))≤549755813888:=Nat.le_trans (Ij hx.2) lx
  have L2:lim (sg n2 (val 4294967296 ys))≤549755813888:=Nat.le_trans (Ij hy.2) ly
  have H0:sg n2 (val 4294967296 ys)≠0:=fun h=>h0 (by have:=I1 n2 (val 4294967296 ys);rw [h] at this;simpa using this.symm)
  obtain ⟨b0,b1,b2,b3,_⟩:=hB.four
  go_enter Tryz.func124,Tryz.ntmps124
  go_wp2
  generalize hw1:w.alloc (.cells #[.bool n1,.slice A1 m1 c1,.bool n2,.slice A2 m2 c2] 94)=w1 at *
  have hs1:w.heap.size<w1.heap.size:=by rw [←hw1];simp
  clear hw1
  generalize hs:w.heap.size=s at *
  go_region_held3 (fun w'=>w'.cell? ⟨s,0,none⟩=some (.bool n1)∧w'.cell? ⟨s,1,none⟩=some (.slice A1 m1 c1)∧w'.cell? ⟨s,2,none⟩=some (.bool n2)∧w'.cell? ⟨s,3,none⟩=some (.slice A2 m2 c2))
    (first | go_keep | exact ⟨Aj (Ae (Ae (B4 hg2) hg3) hg4) b0 (by simp),Aj (Ae (Ae (B4 hg2) hg3) hg4) b1 (by simp),Aj (Ae (Ae (B4 hg2) hg3) hg4) b2 (by simp),Aj (Ae (Ae (B4 hg2) hg3) hg4) b3 (by simp)⟩ | exact ⟨Aj (Ae (B4 hg2) hg3) b0 (by simp),Aj (Ae (B4 hg2) hg3) b1 (by simp),Aj (Ae (B4 hg2) hg3) b2 (by simp),Aj (Ae (B4 hg2) hg3) b3 (by simp)⟩ | exact ⟨Aj (B4 hg2) b0 (by simp),Aj (B4 hg2) b1 (by simp),Aj (B4 hg2) b2 (by simp),Aj (B4 hg2) b3 (by simp)⟩)
    (first
     | (go_at_call_of 71 (Value.agg #[.bool n1,.slice A1 m1 c1]);refine (Dn _ n1 _ xs hx1.drew (by omega)).mono ?_;rintro e w2 ⟨bb2,rfl,hi2,hb2,hg2⟩)
     | (go_at_call 71;refine (Dn w2 n2 _ ys (hy1.more (B4 hg2)) (by omega)).mono ?_;rintro e w3 ⟨bb3,rfl,hi3,hb3,hg3⟩)
     | (go_at_call 182;refine (I9 w3 bb2 0 bb3 0 _ _ (hi2.more hg3).at hi3.at L1 L2 H0).mono ?_;rintro e w4 ⟨bb4,rfl,hi4,hb4,hg4⟩))
  go_wp2
  go_ret
  exact ⟨bb4,rfl,hi4,by have:=hg2.size;have:=hg3.size;(try simp at *);omega,Ae gw (Ae (Ae (B4 hg2) hg3) hg4)⟩
set_option maxRecDepth 100000 in
theorem E7 (w:World) (bx:Nat) (q:Rat) (hx:RatB w bx q) (lx:LimQ q 1099511627776) :
  Calls Tryz.prog 167 #[.pointer (some ⟨bx,0,none⟩)] w fun e w'=>∃ v1 v2,e=.returned (.agg #[.bool (decide (q.num<0)),v1,.bool false,v2])∧Nums w' v1 (digs q.num)∧Nums w' v2 (digs (q.den:Int))∧From w.heap.size v1∧From w.heap.size v2∧w.grownBy w' none:=by
 have l1:=lx.1
 have l2:=lx.2
 have gw:=Af w (.cells #[.bool false,.slice none 0 0,.bool false,.slice none 0 0] 94) none
 have hB:=Blk.new w #[.bool false,.slice none 0 0,.bool false,.slice none 0 0] 94
 have hs1:(w.alloc (.cells #[.bool false,.slice none 0 0,.bool false,.slice none 0 0] 94)).heap.size=w.heap.size+1:=by simp
 have hd:decide ((q.den:Int)<0)=false:=decide_eq_false (by omega)
 have HD:=Ac hd
 clear hd
 go_enter Tryz.func167,Tryz.ntmps167
 go_wp2_with fail
 generalize w.alloc (.cells #[.bool false,.slice none 0 0,.bool false,.slice none 0 0] 94)=w1 at *
 generalize hs:w.heap.size=s at *
 refine (Jg w1 bx q (hx.more gw) l1).mono ?_
 rintro e w2 ⟨bn,rfl,hi2,hb2,hg2⟩
 go_wp2_with fail
 refine (E6 w2 bn 0 q.num hi2.at l1).mono ?_
 rintro e w3 ⟨v1,rfl,hn3,hf3,hg3⟩
 go_wp2_with fail
 refine (C2 w3 bx q (hx.more (Ae gw (Ae hg2 hg3))) l2).mono ?_
 rintro e w4 ⟨bd,rfl,hi4,hb4,hg4⟩
 go_wp2_with fail
 refine (E6 w4 bd 0 q.den hi4.at l2).mono ?_
 rintro e w5 ⟨v2,rfl,hn5,hf5,hg5⟩
 rw [HD.out]
 have g5:=Ae hg4 hg5
 have G5:=Ae (Ae hg2 hg3) g5
 have hm5:=hn3.more g5
 obtain ⟨A1,m1,c1,rfl⟩:=hm5.ctor
 obtain ⟨A2,m2,c2,rfl⟩:=hn5.ctor
 obtain ⟨x0,x1,x2,x3,f0,f1,f2,f3⟩:=(hB.more G5).four
 have hs2:=hg2.size
 have hs3:=hg3.size
 have hs4:=hg4.size
 clear hi2 hi4 hb2 hb4 hn3
 go_wp2
 try simp only [Exit.inBlock,Exit.then]
 have hg6:w5.grownBy ((((w5.setCell ⟨s,0,none⟩ (.bool (decide (q.num<0)))).setCell ⟨s,1,none⟩ (.slice A1 m1 c1)).setCell ⟨s,2,none⟩ (.bool false)).setCell ⟨s,3,none⟩ (.slice A2 m2 c2)) (some s):=Ae (Ae (Ae (Au _ _ _ _) (Au _ _ _ _)) (Au _ _ _ _)) (Au _ _ _ _)
 refine bodyPost_ret (v:=.agg #[.bool (decide (q.num<0)),.slice A1 m1 c1,.bool false,.slice A2 m2 c2]) (by simp [results,Tryz.results167,go_sem,x0,x1,x2,x3]) rfl ⟨_,_,rfl,?_,?_,?_,?_,?_⟩
 ·exact hm5.apart hg6 (fun e=>by have:=hf3 _ e;omega)
 ·exact hn5.apart hg6 (fun e=>by have:=hf5 _ e;omega)
 ·exact hf3.mono (by omega)
 ·exact hf5.mono (by omega)
 ·exact Aw (Ae gw G5) hg6 (by omega)
end
end Go.Proofs.YtckbiimikeiejaaGreatDoor
