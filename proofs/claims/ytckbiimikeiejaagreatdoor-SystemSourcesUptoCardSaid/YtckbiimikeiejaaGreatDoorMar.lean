/- RefV. -/
import Derived.Test.YtckbiimikeiejaaGreatDoorMaq
import Derived.Test.YtckbiimikeiejaaGreatDoorMae
import Derived.Deep.RegionLaw
set_option linter.unusedVariables false
set_option linter.unusedSimpArgs false
set_option maxHeartbeats 40000000
namespace Go.Proofs.YtckbiimikeiejaaGreatDoor
section
open Go.RowKit Go.Maps
open Rat
def FQ (w:World) (v:Value) (q:Rat):Prop:=∃ A c A' c',v=.agg #[.bool (decide (q.num<0)),.slice A (d16 q.num).length c,.bool false,.slice A' (d16 (q.den:Int)).length c']∧D16 w (.slice A (d16 q.num).length c) (d16 q.num)∧D16 w (.slice A' (d16 (q.den:Int)).length c') (d16 (q.den:Int))
theorem FQ.more {w w':World} {v:Value} {q:Rat} (h:FQ w v q) (hg:w.grownBy w' none):FQ w' v q:=by
 obtain ⟨A,c,A',c',e,h1,h2⟩:=h
 exact ⟨A,c,A',c',e,h1.more hg,h2.more hg⟩
theorem Z4 {n d:Int} (h:0<d):gs n d=(Nat.gcd n.natAbs d.natAbs:Int):=by
 unfold gs
 rw [if_neg (by omega)]
theorem Sm (x y:Int):(-x) /. (-y)=x /. y:=Rat.neg_divInt_neg x y
theorem Vp {x y:Int} (hy:0<y):0<Nat.gcd x.natAbs y.natAbs∧(d16 (Nat.gcd x.natAbs y.natAbs:Int)).length≤(d16 y).length:=by
 have h1:0<y.natAbs:=by omega
 refine ⟨Nat.gcd_pos_of_pos_right _ h1,?_⟩
 unfold d16
 rw [Int.natAbs_natCast]
 exact J2 (Nat.gcd_le_right _ h1)
set_option maxRecDepth 100000 in
theorem Ow (w:World) (v1 v2:Value) (x y:Int) (hx:NZ w v1 x) (hy:NZ w v2 y) (h0:y≠0) (lx:(d16 x).length≤1099511627775) (ly:(d16 y).length≤1099511627775) :
    Calls Tryz.prog 96 #[v1,v2] w fun e w'=>∃ v,e=.returned v∧FQ w' v (x /. y)∧w.grownBy w' none:=by
  obtain ⟨A1,c1,rfl,hdx⟩:=hx.form
  obtain ⟨A2,c2,rfl,hdy⟩:=hy.form
  have g1:=Af w (.cells #[.bool (decide (x<0)),.slice A1 (d16 x).length c1] 139) none
  have g2:=Af (w.alloc (.cells #[.bool (decide (x<0)),.slice A1 (d16 x).length c1] 139)) (.cells #[.bool (decide (y<0)),.slice A2 (d16 y).length c2] 139) none
  have g3:=Af ((w.alloc (.cells #[.bool (decide (x<0)),.slice A1 (d16 x).length c1] 139)).alloc (.cells #[.bool (decide (y<0)),.slice A2 (d16 y).length c2] 139)) (.cells #[.bool false,.slice none 0 0,.bool false,.slice none 0 0] 143) none
  have hB1:=(Blk.new w #[.bool (decide (x<0)),.slice A1 (d16 x).length c1] 139).more (Ae g2 g3)
  have hB2:=(Blk.new (w.alloc (.cells #[.bool (decide (x<0)),.slice A1 (d16 x).length c1] 139)) #[.bool (decide (y<0)),.slice A2 (d16 y).length c2] 139).more g3
  have hB3:=Blk.new ((w.alloc (.cells #[.bool (decide (x<0)),.slice A1 (d16 x).length c1] 139)).alloc (.cells #[.bool (decide (y<0)),.slice A2 (d16 y).length c2] 139)) #[.bool false,.slice none 0 0,.bool false,.slice none 0 0] 143
  rw [World.size_alloc] at hB2 hB3
  rw [World.size_alloc] at hB3
  have HGW:=Ac (Ae g1 (Ae g2 g3))
  have HNX:=Ac (hx.more HGW.out)
  have HNY:=Ac (hy.more HGW.out)
  have HBX:=Ac hB1
  have HBY:=Ac hB2
  have HBZ:=Ac hB3
  have HLX:=Ac lx
  have HLY:=Ac ly
  have HSG:=Ac (Mc (((w.alloc (.cells #[.bool (decide (x<0)),.slice A1 (d16 x).length c1] 139)).alloc (.cells #[.bool (decide (y<0)),.slice A2 (d16 y).length c2] 139)).alloc (.cells #[.bool false,.slice none 0 0,.bool false,.slice none 0 0] 143)) _ y HNY.out)
  obtain ⟨y0,y1,fy0,fy1⟩:=hB2.two
  clear hx hy hdx hdy lx ly g1 g2 g3 hB1 hB2 hB3
  by_cases hy0:y<0
  · obtain ⟨X,hX⟩:∃ X,-x=X:=⟨_,rfl⟩
    obtain ⟨Y,hY⟩:∃ Y,-y=Y:=⟨_,rfl⟩
    have HXE:=Ac hX
    have HYE:=Ac hY
    have HY0:Hid (0<Y):=Ac (by omega)
    obtain ⟨Q,hQ⟩:∃ Q,x /. y=Q:=⟨_,rfl⟩
    rw [hQ]
    have HQQ:Hid (X /. Y=Q):=Ac (by rw [←hQ,←hX,←hY];exact Sm x y)
    have hsv:(if y=0 then (0:Int) else if y<0 then -1 else 1) = -1:=by rw [if_neg h0,if_pos hy0]
    rw [hsv] at HSG
    have HLX:Hid ((d16 X).length≤1099511627775):=Ac (by rw [←hX];have:=HLX.out;unfold d16 at *;rwa [Int.natAbs_neg])
    have HLY:Hid ((d16 Y).length≤1099511627775):=Ac (by rw [←hY];have:=HLY.out;unfold d16 at *;rwa [Int.natAbs_neg])
    clear hQ hsv h0 hy0 hX hY
    go_enter Tryz.func96,Tryz.ntmps96
    go_wp2_with fail
    generalize ((w.alloc (.cells #[.bool (decide (x<0)),.slice A1 (d16 x).length c1] 139)).alloc (.cells #[.bool (decide (y<0)),.slice A2 (d16 y).length c2] 139)).alloc (.cells #[.bool false,.slice none 0 0,.bool false,.slice none 0 0] 143)=wa at *
    generalize hs:w.heap.size=s at *
    have HS:=Ac hs
    clear hs
    refine HSG.out.mono ?_
    rintro e w1 ⟨rfl,hg1⟩
    have HNX:=Ac (HNX.out.more hg1)
    have HNY:=Ac (HNY.out.more hg1)
    have HBX:=Ac (HBX.out.more hg1)
    have HBY:=Ac (HBY.out.more hg1)
    have HBZ:=Ac (HBZ.out.more hg1)
    have HGW:=Ac (Ae HGW.out hg1)
    clear y0 y1 fy0 fy1 HSG hg1
    obtain ⟨x0,x1,fx0,fx1⟩:=HBX.out.two
    obtain ⟨y0,y1,fy0,fy1⟩:=HBY.out.two
    have hne:s≠s+1:=by omega
    go_upto_region 2 with (fail)
    have HENT:=Ac (show ∀ args w,(callFunc 176 args).run Tryz.prog w=.ok (.enter 176 args) w from enters_of Tryz.func176 (by kernel_rfl) rfl)
    have HMIN:=Ac (show ∀ W v z Z,Hid (-z=Z)→w1.grownBy W none→NZ W v z→Calls Tryz.prog 176 #[v] W fun e w'=>∃ v',e=.returned v'∧(∃ A c,v'=.agg #[.bool (decide (Z<0)),.slice A (d16 Z).length c]∧D16 w' (.slice A (d16 Z).length c) (d16 Z)∧w1.grownBy w' none∧W.grownBy w' none) from fun W v z Z hz hW hn=>(Kp W v z hn).mono fun e w' ⟨v',e1,e2,e3⟩=>by
      rw [hz.out] at e2
      obtain ⟨A,c,rfl,hd⟩:=e2.form
      exact ⟨_,e1,A,c,rfl,hd,Ae hW e3,e3⟩)
    go_cut [] (fun wx=>w.grownBy wx none∧Hid (NB wx s X∧NB wx (s+1) Y∧Blk wx (s+1+1) #[.bool false,.slice none 0 0,.bool false,.slice none 0 0]))
    case first =>
      go_region_law (first
        | (refine Fo (by rfl) 176 (.tmp 13) _ (by rfl) (.agg #[.bool (decide (x<0)),.slice A1 (d16 x).length c1]) (by rfl) HENT.out _ (HMIN.out _ _ x X HXE (by (focus ((repeat (first | assumption | exact Al _ _ | exact Ai _ _ | exact Af _ _ _ | refine Ae ?_ (Af _ _ _) | refine Ae ?_ (Ai _ _) | refine Ae ?_ (by assumption)));done))) (HNX.out.more (by (focus ((repeat (first | assumption | exact Al _ _ | exact Ai _ _ | exact Af _ _ _ | refine Ae ?_ (Af _ _ _) | refine Ae ?_ (Ai _ _) | refine Ae ?_ (by assumption)));done))))) ?_;rintro v5 w5 ⟨A5,c5,rfl,hd5,hg5,hk5⟩;obtain ⟨x0,x1,fx0,fx1⟩:=(HBX.out.more hg5).two;obtain ⟨y0,y1,fy0,fy1⟩:=(HBY.out.more hg5).two)
        | (refine Fo (by rfl) 176 (.tmp 15) _ (by rfl) (.agg #[.bool (decide (y<0)),.slice A2 (d16 y).length c2]) (by rfl) HENT.out _ (HMIN.out _ _ y Y HYE (by (focus ((repeat (first | assumption | exact Al _ _ | exact Ai _ _ | exact Af _ _ _ | refine Ae ?_ (Af _ _ _) | refine Ae ?_ (Ai _ _) | refine Ae ?_ (by assumption)));done))) (HNY.out.more (by (focus ((repeat (first | assumption | exact Al _ _ | exact Ai _ _ | exact Af _ _ _ | refine Ae ?_ (Af _ _ _) | refine Ae ?_ (Ai _ _) | refine Ae ?_ (by assumption)));done))))) ?_;rintro v6 w6 ⟨A6,c6,rfl,hd6,hg6,hk6⟩;have hd5:=hd5.more hk6;obtain ⟨x0,x1,fx0,fx1⟩:=(HBX.out.more hg6).two;obtain ⟨y0,y1,fy0,fy1⟩:=(HBY.out.more hg6).two)
        | (fail))
      all_goals
        go_wp2_with fail
        go_meet
        have e:=Ip hne (HBX.out.more hg6) (HBY.out.more hg6) (decide (X<0)) (decide (Y<0)) A5 A6 (d16 X).length c5 (d16 Y).length c6
        exact ⟨e.2.2.2 w (Ae HGW.out hg6) (by have:=HS.out;omega) (by have:=HS.out;omega),Ac ⟨⟨A5,c5,e.1,e.2.2.1 _ _ hd5⟩,⟨A6,c6,e.2.1,e.2.2.1 _ _ hd6⟩,Xz (HBZ.out.more hg6) (by omega) (by omega) _ _ _ _⟩⟩
    case rest =>
     as_aux_lemma =>
      obtain ⟨hgw,hfc⟩:=hcut
      obtain ⟨f1,f2,f3⟩:=hfc.out
      obtain ⟨B1,d1,h1,h2,_⟩:=f1.nz
      obtain ⟨B2,d2,h3,h4,_⟩:=f2.nz
      have HBX:=Ac h1
      have HNX:=Ac h2
      have HBY:=Ac h3
      have HNY:=Ac h4
      have HBZ:=Ac f3
      have HGW:=Ac hgw
      clear hgw hfc f1 f2 f3 h1 h2 h3 h4 x0 x1 y0 y1 fx0 fx1 fy0 fy1 HENT HMIN
      obtain ⟨x0,x1,_⟩:=HBX.out.two
      obtain ⟨y0,y1,_⟩:=HBY.out.two
      go_wp2_with fail
      refine (Ju wc _ _ X Y HNX.out HNY.out HLX.out HLY.out).mono ?_
      rintro e w2 ⟨gv,rfl,hg,hg2⟩
      have hgl:=Vp (x:=X) HY0.out
      have hnum:=Gr X Y (by have:=HY0.out;omega)
      have hden:=Gq X Y (by have:=HY0.out;omega)
      rw [Z4 HY0.out] at hnum hden
      rw [HQQ.out] at hnum hden
      generalize Nat.gcd (X).natAbs (Y).natAbs=G at *
      have HLG:Hid ((d16 (G:Int)).length≤1099511627775):=Ac (Nat.le_trans hgl.2 HLY.out)
      have HG0:Hid ((G:Int)≠0):=Ac (by have:=hgl.1;omega)
      obtain ⟨Ag,cg,rfl,hdg⟩:=hg.form
      have ga:=Af w2 (.cells #[.bool (decide ((G:Int)<0)),.slice Ag (d16 (G:Int)).length cg] 139) none
      have hGB:=Blk.new w2 #[.bool (decide ((G:Int)<0)),.slice Ag (d16 (G:Int)).length cg] 139
      have HG3:=Ac (Ae hg2 ga)
      have HGB:=Ac hGB
      have HNG:Hid (NZ (w2.alloc (.cells #[.bool (decide ((G:Int)<0)),.slice Ag (d16 (G:Int)).length cg] 139)) (.agg #[.bool (decide ((G:Int)<0)),.slice Ag (d16 (G:Int)).length cg]) (G:Int)):=Ac ⟨_,rfl,hdg.more ga⟩
      have HDV:=Ac (El (w2.alloc (.cells #[.bool (decide ((G:Int)<0)),.slice Ag (d16 (G:Int)).length cg] 139)) _ _ X (G:Int) (HNX.out.more HG3.out) HNG.out HG0.out (Nat.le_trans HLX.out (by omega)) HLG.out)
      have hbx:=HBX.out.more HG3.out
      clear x0 x1 y0 y1 hg hdg hg2 ga hGB hgl
      obtain ⟨x0,x1,_⟩:=hbx.two
      obtain ⟨k0,k1,_⟩:=HGB.out.two
      clear hbx
      obtain ⟨p,hp⟩:∃ p,(X).tdiv (G:Int)=p:=⟨_,rfl⟩
      obtain ⟨q,hq⟩:∃ q,(Y).tdiv (G:Int)=q:=⟨_,rfl⟩
      rw [hp] at hnum HDV
      rw [hq] at hden
      have HQE:=Ac hq
      have HNUM:=Ac hnum
      have HDEN:=Ac hden
      clear hp hq hnum hden
      go_wp2_with fail
      generalize w2.alloc (.cells #[.bool (decide ((G:Int)<0)),.slice Ag (d16 (G:Int)).length cg] 139)=w3 at *
      generalize w2.heap.size=gb at *
      refine HDV.out.mono ?_
      rintro e w4 ⟨qv,rv,rfl,hqv,hrv,hg4⟩
      generalize (X).tmod (G:Int)=r1 at *
      obtain ⟨Ap,cp,rfl,hdp⟩:=hqv.form
      obtain ⟨Ar,cr,rfl,hdr⟩:=hrv.form
      have ga:=Af w4 (.cells #[.bool (decide (p<0)),.slice Ap (d16 p).length cp] 139) none
      have gb':=Af (w4.alloc (.cells #[.bool (decide (p<0)),.slice Ap (d16 p).length cp] 139)) (.cells #[.bool (decide (r1<0)),.slice Ar (d16 r1).length cr] 139) none
      have HQB:=Ac ((Blk.new w4 #[.bool (decide (p<0)),.slice Ap (d16 p).length cp] 139).more gb')
      have HG5:=Ac (Ae hg4 (Ae ga gb'))
      have HDP:=Ac (hdp.more (Ae ga gb'))
      have HDW:=Ac (El ((w4.alloc (.cells #[.bool (decide (p<0)),.slice Ap (d16 p).length cp] 139)).alloc (.cells #[.bool (decide (r1<0)),.slice Ar (d16 r1).length cr] 139)) _ _ Y (G:Int) (HNY.out.more (Ae HG3.out HG5.out)) (HNG.out.more HG5.out) HG0.out (Nat.le_trans HLY.out (by omega)) HLG.out)
      rw [HQE.out] at HDW
      have hby:=HBY.out.more (Ae HG3.out HG5.out)
      have hgb:=HGB.out.more HG5.out
      clear x0 x1 k0 k1 hqv hrv hdp hdr hg4 ga gb' HDV
      obtain ⟨y0,y1,_⟩:=hby.two
      obtain ⟨k0,k1,_⟩:=hgb.two
      clear hby hgb
      go_wp2_with fail
      generalize (w4.alloc (.cells #[.bool (decide (p<0)),.slice Ap (d16 p).length cp] 139)).alloc (.cells #[.bool (decide (r1<0)),.slice Ar (d16 r1).length cr] 139)=w5 at *
      generalize w4.heap.size=qb at *
      refine HDW.out.mono ?_
      rintro e w6 ⟨qv,rv,rfl,hqv,hrv,hg6⟩
      generalize (Y).tmod (G:Int)=r2 at *
      obtain ⟨Aq,cq,rfl,hdq⟩:=hqv.form
      obtain ⟨As,cs,rfl,hds⟩:=hrv.form
      have ga:=Af w6 (.cells #[.bool (decide (q<0)),.slice Aq (d16 q).length cq] 139) none
      have gb':=Af (w6.alloc (.cells #[.bool (decide (q<0)),.slice Aq (d16 q).length cq] 139)) (.cells #[.bool (decide (r2<0)),.slice As (d16 r2).length cs] 139) none
      have HEB:=Ac ((Blk.new w6 #[.bool (decide (q<0)),.slice Aq (d16 q).length cq] 139).more gb')
      have HG7:=Ac (Ae hg6 (Ae ga gb'))
      have HDQ:=Ac (hdq.more (Ae ga gb'))
      have hz:=HBZ.out.more (Ae HG3.out (Ae HG5.out HG7.out))
      have hqb:=HQB.out.more HG7.out
      clear y0 y1 k0 k1 hqv hrv hdq hds hg6 ga gb' HDW
      obtain ⟨q0,q1,_⟩:=hqb.two
      obtain ⟨e0,e1,_⟩:=HEB.out.two
      obtain ⟨z0,z1,z2,z3,fz⟩:=hz.four
      have HZ:=Ac hz
      have f0:=hz.free 0
      have f1:=hz.free 1
      have f2:=hz.free 2
      have f3:=hz.free 3
      clear hqb hz fz
      go_wp2_with fail
      generalize (w6.alloc (.cells #[.bool (decide (q<0)),.slice Aq (d16 q).length cq] 139)).alloc (.cells #[.bool (decide (r2<0)),.slice As (d16 r2).length cs] 139)=w7 at *
      generalize w6.heap.size=eb at *
      try simp only [Exit.inBlock,Exit.then]
      obtain ⟨w8,hw8⟩:∃ W,W=((((w7.setCell ⟨s+1+1,0,none⟩ (.bool (decide (p<0)))).setCell ⟨s+1+1,1,none⟩ (.slice Ap (d16 p).length cp)).setCell ⟨s+1+1,2,none⟩ (.bool (decide (q<0)))).setCell ⟨s+1+1,3,none⟩ (.slice Aq (d16 q).length cq)):=⟨_,rfl⟩
      rw [←hw8]
      have hB8:Blk w8 (s+1+1) #[.bool (decide (p<0)),.slice Ap (d16 p).length cp,.bool (decide (q<0)),.slice Aq (d16 q).length cq]:=by rw [hw8];exact (((HZ.out.set 0 _).set 1 _).set 2 _).set 3 _
      have hG8:w7.grownBy w8 (some (s+1+1)):=by rw [hw8];exact Jl _ _ _ _ _ _
      clear z0 z1 z2 z3 f0 f1 f2 f3 hw8 q0 q1 e0 e1
      obtain ⟨z0,z1,z2,z3,_⟩:=hB8.four
      refine bodyPost_ret (v:=.agg #[.bool (decide (p<0)),.slice Ap (d16 p).length cp,.bool (decide (q<0)),.slice Aq (d16 q).length cq]) (by simp [results,Tryz.results96,go_sem,z0,z1,z2,z3]) rfl ⟨_,rfl,⟨Ap,cp,Aq,cq,?_,?_,?_⟩,?_⟩
      · rw [HNUM.out,HDEN.out,decide_eq_false (show ¬ q<0 by rw [←HDEN.out];omega)]
      · rw [HNUM.out];exact (HDP.out.more HG7.out).keep HZ.out (by simp) hG8
      · rw [HDEN.out];exact HDQ.out.keep HZ.out (by simp) hG8
      · exact Aw (Ae HGW.out (Ae HG3.out (Ae HG5.out HG7.out))) hG8 (by have:=HS.out;omega)
  · have hyp:0<y:=by omega
    have HY0:=Ac hyp
    obtain ⟨Q,hQ⟩:∃ Q,x /. y=Q:=⟨_,rfl⟩
    rw [hQ]
    have HQQ:=Ac hQ
    have hsv:(if y=0 then (0:Int) else if y<0 then -1 else 1)=1:=by rw [if_neg h0,if_neg hy0]
    rw [hsv] at HSG
    clear hQ hsv h0 hyp hy0
    go_enter Tryz.func96,Tryz.ntmps96
    go_wp2_with fail
    generalize ((w.alloc (.cells #[.bool (decide (x<0)),.slice A1 (d16 x).length c1] 139)).alloc (.cells #[.bool (decide (y<0)),.slice A2 (d16 y).length c2] 139)).alloc (.cells #[.bool false,.slice none 0 0,.bool false,.slice none 0 0] 143)=wa at *
    generalize hs:w.heap.size=s at *
    have HS:=Ac hs
    clear hs
    refine HSG.out.mono ?_
    rintro e w1 ⟨rfl,hg1⟩
    have HNX:=Ac (HNX.out.more hg1)
    have HNY:=Ac (HNY.out.more hg1)
    have HBX:=Ac (HBX.out.more hg1)
    have HBY:=Ac (HBY.out.more hg1)
    have HBZ:=Ac (HBZ.out.more hg1)
    have HGW:=Ac (Ae HGW.out hg1)
    clear y0 y1 fy0 fy1 HSG hg1
    obtain ⟨x0,x1,_⟩:=HBX.out.two
    obtain ⟨y0,y1,_⟩:=HBY.out.two
    go_wp2_with fail
    refine (Ju w1 _ _ x y HNX.out HNY.out HLX.out HLY.out).mono ?_
    rintro e w2 ⟨gv,rfl,hg,hg2⟩
    have hgl:=Vp (x:=x) HY0.out
    have hnum:=Gr x y (by have:=HY0.out;omega)
    have hden:=Gq x y (by have:=HY0.out;omega)
    rw [Z4 HY0.out] at hnum hden
    rw [HQQ.out] at hnum hden
    generalize Nat.gcd (x).natAbs (y).natAbs=G at *
    have HLG:Hid ((d16 (G:Int)).length≤1099511627775):=Ac (Nat.le_trans hgl.2 HLY.out)
    have HG0:Hid ((G:Int)≠0):=Ac (by have:=hgl.1;omega)
    obtain ⟨Ag,cg,rfl,hdg⟩:=hg.form
    have ga:=Af w2 (.cells #[.bool (decide ((G:Int)<0)),.slice Ag (d16 (G:Int)).length cg] 139) none
    have hGB:=Blk.new w2 #[.bool (decide ((G:Int)<0)),.slice Ag (d16 (G:Int)).length cg] 139
    have HG3:=Ac (Ae hg2 ga)
    have HGB:=Ac hGB
    have HNG:Hid (NZ (w2.alloc (.cells #[.bool (decide ((G:Int)<0)),.slice Ag (d16 (G:Int)).length cg] 139)) (.agg #[.bool (decide ((G:Int)<0)),.slice Ag (d16 (G:Int)).length cg]) (G:Int)):=Ac ⟨_,rfl,hdg.more ga⟩
    have HDV:=Ac (El (w2.alloc (.cells #[.bool (decide ((G:Int)<0)),.slice Ag (d16 (G:Int)).length cg] 139)) _ _ x (G:Int) (HNX.out.more HG3.out) HNG.out HG0.out (Nat.le_trans HLX.out (by omega)) HLG.out)
    have hbx:=HBX.out.more HG3.out
    clear x0 x1 y0 y1 hg hdg hg2 ga hGB hgl
    obtain ⟨x0,x1,_⟩:=hbx.two
    obtain ⟨k0,k1,_⟩:=HGB.out.two
    clear hbx
    obtain ⟨p,hp⟩:∃ p,(x).tdiv (G:Int)=p:=⟨_,rfl⟩
    obtain ⟨q,hq⟩:∃ q,(y).tdiv (G:Int)=q:=⟨_,rfl⟩
    rw [hp] at hnum HDV
    rw [hq] at hden
    have HQE:=Ac hq
    have HNUM:=Ac hnum
    have HDEN:=Ac hden
    clear hp hq hnum hden
    go_wp2_with fail
    generalize w2.alloc (.cells #[.bool (decide ((G:Int)<0)),.slice Ag (d16 (G:Int)).length cg] 139)=w3 at *
    generalize w2.heap.size=gb at *
    refine HDV.out.mono ?_
    rintro e w4 ⟨qv,rv,rfl,hqv,hrv,hg4⟩
    generalize (x).tmod (G:Int)=r1 at *
    obtain ⟨Ap,cp,rfl,hdp⟩:=hqv.form
    obtain ⟨Ar,cr,rfl,hdr⟩:=hrv.form
    have ga:=Af w4 (.cells #[.bool (decide (p<0)),.slice Ap (d16 p).length cp] 139) none
    have gb':=Af (w4.alloc (.cells #[.bool (decide (p<0)),.slice Ap (d16 p).length cp] 139)) (.cells #[.bool (decide (r1<0)),.slice Ar (d16 r1).length cr] 139) none
    have HQB:=Ac ((Blk.new w4 #[.bool (decide (p<0)),.slice Ap (d16 p).length cp] 139).more gb')
    have HG5:=Ac (Ae hg4 (Ae ga gb'))
    have HDP:=Ac (hdp.more (Ae ga gb'))
    have HDW:=Ac (El ((w4.alloc (.cells #[.bool (decide (p<0)),.slice Ap (d16 p).length cp] 139)).alloc (.cells #[.bool (decide (r1<0)),.slice Ar (d16 r1).length cr] 139)) _ _ y (G:Int) (HNY.out.more (Ae HG3.out HG5.out)) (HNG.out.more HG5.out) HG0.out (Nat.le_trans HLY.out (by omega)) HLG.out)
    rw [HQE.out] at HDW
    have hby:=HBY.out.more (Ae HG3.out HG5.out)
    have hgb:=HGB.out.more HG5.out
    clear x0 x1 k0 k1 hqv hrv hdp hdr hg4 ga gb' HDV
    obtain ⟨y0,y1,_⟩:=hby.two
    obtain ⟨k0,k1,_⟩:=hgb.two
    clear hby hgb
    go_wp2_with fail
    generalize (w4.alloc (.cells #[.bool (decide (p<0)),.slice Ap (d16 p).length cp] 139)).alloc (.cells #[.bool (decide (r1<0)),.slice Ar (d16 r1).length cr] 139)=w5 at *
    generalize w4.heap.size=qb at *
    refine HDW.out.mono ?_
    rintro e w6 ⟨qv,rv,rfl,hqv,hrv,hg6⟩
    generalize (y).tmod (G:Int)=r2 at *
    obtain ⟨Aq,cq,rfl,hdq⟩:=hqv.form
    obtain ⟨As,cs,rfl,hds⟩:=hrv.form
    have ga:=Af w6 (.cells #[.bool (decide (q<0)),.slice Aq (d16 q).length cq] 139) none
    have gb':=Af (w6.alloc (.cells #[.bool (decide (q<0)),.slice Aq (d16 q).length cq] 139)) (.cells #[.bool (decide (r2<0)),.slice As (d16 r2).length cs] 139) none
    have HEB:=Ac ((Blk.new w6 #[.bool (decide (q<0)),.slice Aq (d16 q).length cq] 139).more gb')
    have HG7:=Ac (Ae hg6 (Ae ga gb'))
    have HDQ:=Ac (hdq.more (Ae ga gb'))
    have hz:=HBZ.out.more (Ae HG3.out (Ae HG5.out HG7.out))
    have hqb:=HQB.out.more HG7.out
    clear y0 y1 k0 k1 hqv hrv hdq hds hg6 ga gb' HDW
    obtain ⟨q0,q1,_⟩:=hqb.two
    obtain ⟨e0,e1,_⟩:=HEB.out.two
    obtain ⟨z0,z1,z2,z3,fz⟩:=hz.four
    have HZ:=Ac hz
    have f0:=hz.free 0
    have f1:=hz.free 1
    have f2:=hz.free 2
    have f3:=hz.free 3
    clear hqb hz fz
    go_wp2_with fail
    generalize (w6.alloc (.cells #[.bool (decide (q<0)),.slice Aq (d16 q).length cq] 139)).alloc (.cells #[.bool (decide (r2<0)),.slice As (d16 r2).length cs] 139)=w7 at *
    generalize w6.heap.size=eb at *
    try simp only [Exit.inBlock,Exit.then]
    obtain ⟨w8,hw8⟩:∃ W,W=((((w7.setCell ⟨s+1+1,0,none⟩ (.bool (decide (p<0)))).setCell ⟨s+1+1,1,none⟩ (.slice Ap (d16 p).length cp)).setCell ⟨s+1+1,2,none⟩ (.bool (decide (q<0)))).setCell ⟨s+1+1,3,none⟩ (.slice Aq (d16 q).length cq)):=⟨_,rfl⟩
    rw [←hw8]
    have hB8:Blk w8 (s+1+1) #[.bool (decide (p<0)),.slice Ap (d16 p).length cp,.bool (decide (q<0)),.slice Aq (d16 q).length cq]:=by rw [hw8];exact (((HZ.out.set 0 _).set 1 _).set 2 _).set 3 _
    have hG8:w7.grownBy w8 (some (s+1+1)):=by rw [hw8];exact Jl _ _ _ _ _ _
    clear z0 z1 z2 z3 f0 f1 f2 f3 hw8 q0 q1 e0 e1
    obtain ⟨z0,z1,z2,z3,_⟩:=hB8.four
    refine bodyPost_ret (v:=.agg #[.bool (decide (p<0)),.slice Ap (d16 p).length cp,.bool (decide (q<0)),.slice Aq (d16 q).length cq]) (by simp [results,Tryz.results96,go_sem,z0,z1,z2,z3]) rfl ⟨_,rfl,⟨Ap,cp,Aq,cq,?_,?_,?_⟩,?_⟩
    · rw [HNUM.out,HDEN.out,decide_eq_false (show ¬ q<0 by rw [←HDEN.out];omega)]
    · rw [HNUM.out];exact (HDP.out.more HG7.out).keep HZ.out (by simp) hG8
    · rw [HDEN.out];exact HDQ.out.keep HZ.out (by simp) hG8
    · exact Aw (Ae HGW.out (Ae HG3.out (Ae HG5.out HG7.out))) hG8 (by have:=HS.out;omega)
end
end Go.Proofs.YtckbiimikeiejaaGreatDoor
