/- GriF GriG. -/
import Derived.Test.YtckbiimikeiejaaGreatDoorMbl
import Derived.Test.YtckbiimikeiejaaGreatDoorMbe
set_option linter.unusedVariables false
set_option linter.unusedSimpArgs false
set_option maxHeartbeats 40000000
namespace Go.Proofs.YtckbiimikeiejaaGreatDoor
section
open Go.RowKit Go.Maps
open Rat
set_option maxRecDepth 100000 in
theorem A2q (w:World) (vv sv:Value) (vals:List (Int × Int)) (steps:List Int) (step:Int) (hv:NumRow w vv vals) (hs:IntRow w sv steps) (hok:Di 3 vals steps) (hst:0≤step∧step≤1000000000) :
    Calls Tryz.prog 171 #[.agg #[.int .i64 3,vv,sv],.int .i64 step] w fun e w'=>∃ v,e=.returned v∧FQ w' v (pwlQ vals steps step)∧w.grownBy w' none:=by
  obtain ⟨⟨h1,h2,h3⟩,h4,h5⟩:=X6 hok
  have HMID:=Ac (fun i hi h0 h1=>A2z (step:=step) hok hst (i:=i) hi h0 h1)
  have HMON:=Ac (A2k hok)
  have HNO:=Ac (Bm hok.1)
  obtain ⟨Av,cv,rfl,_,_⟩:=id hv
  obtain ⟨bv,ov,rfl,qb,_⟩:=hv.at (i:=0) (by omega)
  have hbv:bv≠w.heap.size+1:=by have:=Dp qb;omega
  obtain ⟨As,cs,rfl,_,_⟩:=hs.ctor
  obtain ⟨bs,os,rfl,_,qs⟩:=hs.at (i:=0) (by omega)
  have hbs:bs≠w.heap.size+1:=by have:=Dp qs;omega
  obtain ⟨R,hR⟩:∃ R,pwlQ vals steps step=R:=⟨_,rfl⟩
  rw [hR]
  unfold pwlQ vQ at hR
  have HQ:=Ac hR.symm
  have gw:=Ae (Af w (.cells #[.int .i64 3,.slice (some ⟨bv,ov,none⟩) vals.length cv,.slice (some ⟨bs,os,none⟩) steps.length cs] 85) none) (Af _ (.cells #[.bool false,.slice none 0 0,.bool false,.slice none 0 0] 143) none)
  have hB:=(Blk.new w #[.int .i64 3,.slice (some ⟨bv,ov,none⟩) vals.length cv,.slice (some ⟨bs,os,none⟩) steps.length cs] 85).more (Af _ (.cells #[.bool false,.slice none 0 0,.bool false,.slice none 0 0] 143) none)
  have hZ:=Blk.new (w.alloc (.cells #[.int .i64 3,.slice (some ⟨bv,ov,none⟩) vals.length cv,.slice (some ⟨bs,os,none⟩) steps.length cs] 85)) #[.bool false,.slice none 0 0,.bool false,.slice none 0 0] 143
  rw [World.size_alloc] at hZ
  have HZ:=Ac hZ
  have m0':=hB.cell 0
  have m1:=hB.cell 1
  have m2:=hB.cell 2
  simp only [List.getElem?_toArray,List.getElem?_cons_zero,List.getElem?_cons_succ] at m0' m1 m2
  have HV:=Ac (hv.more gw)
  have HSS:=Ac (hs.more gw)
  have HGW:=Ac gw
  clear hv hs hok h4 h5 hB hR gw hZ qb qs
  generalize hnv:vals.length=nv at *
  generalize hns:steps.length=ns at *
  have HNV:=Ac (And.intro hnv hns)
  clear hnv hns
  subst h1
  go_enter Tryz.func171,Tryz.ntmps171
  go_wp2_with fail
  generalize (w.alloc (.cells #[.int .i64 3,.slice (some ⟨bv,ov,none⟩) nv cv,.slice (some ⟨bs,os,none⟩) nv cs] 85)).alloc (.cells #[.bool false,.slice none 0 0,.bool false,.slice none 0 0] 143)=wa at *
  generalize hs:w.heap.size=s at *
  have HS:=Ac hs
  clear hs
  have HG2:=HGW
  obtain ⟨_,_,e',_,u0⟩:=HSS.out.at (i:=0) (by have:=HNV.out.2;omega)
  injection e' with e';injection e' with e1 e2 _;subst e1 e2
  have j0:(0:Int)<(nv:Int):=by omega
  have ne1:s≠s+1:=by omega
  have ne2:s+1≠s:=by omega
  have ne3:=Ne.symm hbv
  have ne4:=Ne.symm hbs
  obtain ⟨y,hy⟩:∃ y,steps.getD 0 0=y:=⟨_,rfl⟩
  rw [hy,Nat.add_zero] at u0
  have HY:=Ac hy
  clear hy
  by_cases a0:step<y
  · have hc:cntS steps step=0:=Y3 (fun j hj=>by omega) (by omega) (fun _=>by rw [HY.out];exact a0)
    rw [hc] at HQ
    have HR:=Ac (HQ.out.trans (if_pos rfl))
    obtain ⟨_,_,e',q0,q1⟩:=HV.out.at (i:=0) (by have:=HNV.out.1;omega)
    injection e' with e';injection e' with e1 e2 _;subst e1 e2
    have HN0:=Ac (HNO.out 0)
    generalize vals.getD 0 (0,0)=p0 at *
    obtain ⟨m0,e0⟩:=p0
    simp only [Nat.zero_mul,Nat.add_zero] at q0 q1 HN0 HR
    clear HQ hc HMID
    have HA0:=Ac a0
    go_loopw [10] (fun i wr=>∃ j:Nat,j+1≤nv∧i=.int .i64 ((j:Int)+1)∧wr=wa) (fun i _=>(nv-intOf i).toNat)
    case atStart=>exact ⟨0,by omega,rfl,rfl⟩
    case round =>
      obtain ⟨j,hj,rfl,rfl⟩:=hrel
      by_cases hlt:j+1<nv
      · obtain ⟨_,_,e',_,u1⟩:=HSS.out.at (i:=j) (by have:=HNV.out.2;omega)
        injection e' with e';injection e' with e1 e2 _;subst e1 e2
        have hm:=HMON.out j (by have:=HNV.out.2;omega)
        rw [HY.out] at hm
        generalize steps.getD j 0=x at *
        have e1:IntKind.i64.wrap ((j:Int)+1-1)=(j:Int):=by rw [Int.add_sub_cancel];exact IntWalk.i64_in _ (by omega)
        have e2:IntKind.i64.wrap (j:Int)=(j:Int):=IntWalk.i64_in _ (by omega)
        have e5:IntKind.i64.wrap ((j:Int)+1+1)=(j:Int)+1+1:=IntWalk.i64_in _ (by omega)
        have i0:(j:Int)<(nv:Int):=by omega
        have i3:(j:Int)+1<(nv:Int):=by omega
        have d0:decide (x≤step)=false:=by rw [decide_eq_false_iff_not];omega
        have d1:¬ x≤step:=by omega
        clear hm
        go_wp2_with fail
        exact ⟨⟨j+1,by omega,by go_num,trivial⟩,by simp [intOf];omega⟩
      · have i3:¬ (j:Int)+1<(nv:Int):=by omega
        go_wp2_with fail
        refine (N7 wr m0 e0 HN0.out).mono ?_
        rintro e w4 ⟨v4,rfl,hv4,hg4⟩
        rw [←HR.out] at hv4
        obtain ⟨A5,c5,A6,c6,rfl,hkk⟩:=hv4.res
        have HGF:=Ac (Ae HG2.out hg4)
        have HB4:=Ac (HZ.out.more hg4)
        obtain ⟨z0,z1,z2,z3,f0,f1,f2,f3⟩:=HB4.out.four
        generalize decide (R.num<0)=sr at *
        generalize (d16 R.num).length=nr at *
        generalize (d16 (R.den:Int)).length=nt at *
        go_wp2_with fail
        try simp only [Exit.inBlock,Exit.then]
        obtain ⟨w5,hw5⟩:∃ W,W=((((w4.setCell ⟨s+1,0,none⟩ (.bool sr)).setCell ⟨s+1,1,none⟩ (.slice A5 nr c5)).setCell ⟨s+1,2,none⟩ (.bool false)).setCell ⟨s+1,3,none⟩ (.slice A6 nt c6)):=⟨_,rfl⟩
        rw [←hw5]
        have hB5:Blk w5 (s+1) #[.bool sr,.slice A5 nr c5,.bool false,.slice A6 nt c6]:=by rw [hw5];exact (((HB4.out.set 0 _).set 1 _).set 2 _).set 3 _
        have hG5:w4.grownBy w5 (some (s+1)):=by rw [hw5];exact Jl _ _ _ _ _ _
        clear z0 z1 z2 z3 f0 f1 f2 f3 hw5
        obtain ⟨z0,z1,z2,z3,_⟩:=hB5.four
        refine bodyPost_ret (v:=.agg #[.bool sr,.slice A5 nr c5,.bool false,.slice A6 nt c6]) (by simp [results,Tryz.results171,go_sem,z0,z1,z2,z3]) rfl ⟨_,rfl,hkk _ _ _ HB4.out (by simp) hG5,Aw (HGF.out) hG5 (by have:=HS.out;omega)⟩
  · have a1:y≤step:=by omega
    have HA1:=Ac a1
    go_loopw [10] (fun i wr=>∃ j:Nat,j+1≤nv∧i=.int .i64 ((j:Int)+1)∧wr=wa∧Hid (∀ t,t<j+1→steps.getD t 0≤step)) (fun i _=>(nv-intOf i).toNat)
    case atStart=>exact ⟨0,by omega,rfl,rfl,Ac (fun t ht=>by obtain rfl:t=0:=(by omega);rw [HY.out];exact HA1.out)⟩
    case round =>
      obtain ⟨j,hj,rfl,rfl,hb⟩:=hrel
      by_cases hlt:j+1<nv
      · obtain ⟨_,_,e',_,u1⟩:=HSS.out.at (i:=j) (by have:=HNV.out.2;omega)
        injection e' with e';injection e' with e1 e2 _;subst e1 e2
        obtain ⟨_,_,e',_,u2⟩:=HSS.out.at (i:=j+1) (by have:=HNV.out.2;omega)
        injection e' with e';injection e' with e1 e2 _;subst e1 e2
        have hx0:=hb.out j (by omega)
        obtain ⟨x1,hx1⟩:∃ x1,steps.getD (j+1) 0=x1:=⟨_,rfl⟩
        rw [hx1] at u2
        have HX1:=Ac hx1
        clear hx1
        have e1:IntKind.i64.wrap ((j:Int)+1-1)=(j:Int):=by rw [Int.add_sub_cancel];exact IntWalk.i64_in _ (by omega)
        have e2:IntKind.i64.wrap (j:Int)=(j:Int):=IntWalk.i64_in _ (by omega)
        have e5:IntKind.i64.wrap ((j:Int)+1+1)=(j:Int)+1+1:=IntWalk.i64_in _ (by omega)
        have i0:(j:Int)<(nv:Int):=by omega
        have i3:(j:Int)+1<(nv:Int):=by omega
        by_cases hs1:step<x1
        · have hc:cntS steps step=j+1:=Y3 hb.out (by rw [HNV.out.2];omega) (fun _=>by rw [HX1.out];exact hs1)
          rw [hc] at HQ
          have HR:=Ac (HQ.out.trans ((if_neg (by omega)).trans (if_neg (by omega))))
          rw [Nat.add_sub_cancel,HX1.out] at HR
          have hmid:=HMID.out (j+1) (by omega) (by omega) (by rw [Nat.add_sub_cancel];exact hx0)
          rw [Nat.add_sub_cancel,HX1.out] at hmid
          obtain ⟨_,_,e',q0,q1⟩:=HV.out.at (i:=j) (by have:=HNV.out.1;omega)
          injection e' with e';injection e' with e1' e2' _;subst e1' e2'
          obtain ⟨_,_,e',r0,r1⟩:=HV.out.at (i:=j+1) (by have:=HNV.out.1;omega)
          injection e' with e';injection e' with e1' e2' _;subst e1' e2'
          have HN0:=Ac (HNO.out j)
          have HN1:=Ac (HNO.out (j+1))
          generalize vals.getD j (0,0)=p0 at *
          generalize vals.getD (j+1) (0,0)=p1 at *
          generalize steps.getD j 0=x0 at *
          obtain ⟨m0,e0⟩:=p0
          obtain ⟨m1',e1'⟩:=p1
          simp only at q0 q1 r0 r1 HN0 HN1 HR
          have HK:Hid ((step-x0).natAbs≤2000000000∧(x1-x0).natAbs≤2000000000∧x1-x0≠0):=Ac (by omega)
          have e3:IntKind.i64.wrap (step-x0)=step-x0:=IntWalk.i64_in _ (by omega)
          have e4:IntKind.i64.wrap (x1-x0)=x1-x0:=IntWalk.i64_in _ (by omega)
          have HKK:=Ac (fun W (h:wr.grownBy W none)=>(⟨Aj h m1 (by simp),Aj h q0 (by simp),Aj h q1 (by simp),Aj h r0 (by simp),Aj h r1 (by simp),Aj h u1 (by simp),Aj h u2 (by simp)⟩:W.cell? ⟨s,1,none⟩=some (.slice (some ⟨bv,ov,none⟩) nv cv)∧W.cell? ⟨bv,ov+j*2,none⟩=some (.int .i64 m0)∧W.cell? ⟨bv,ov+j*2+1,none⟩=some (.int .i64 e0)∧W.cell? ⟨bv,ov+(j+1)*2,none⟩=some (.int .i64 m1')∧W.cell? ⟨bv,ov+(j+1)*2+1,none⟩=some (.int .i64 e1')∧W.cell? ⟨bs,os+j,none⟩=some (.int .i64 x0)∧W.cell? ⟨bs,os+(j+1),none⟩=some (.int .i64 x1)))
          have i4:(0:Int)≤(j:Int)+1:=by omega
          have i5:j+1<nv:=by omega
          have d0:decide (x0≤step)=true:=by rw [decide_eq_true_iff];exact hx0
          have d1:decide (step<x1)=true:=by rw [decide_eq_true_iff];exact hs1
          clear HQ hb hmid HMID HNO hst hc
          go_wp2_with fail
          go_region_held3 (fun W=>W.cell? ⟨s,1,none⟩=some (.slice (some ⟨bv,ov,none⟩) nv cv)∧W.cell? ⟨bv,ov+j*2,none⟩=some (.int .i64 m0)∧W.cell? ⟨bv,ov+j*2+1,none⟩=some (.int .i64 e0)∧W.cell? ⟨bv,ov+(j+1)*2,none⟩=some (.int .i64 m1')∧W.cell? ⟨bv,ov+(j+1)*2+1,none⟩=some (.int .i64 e1')∧W.cell? ⟨bs,os+j,none⟩=some (.int .i64 x0)∧W.cell? ⟨bs,os+(j+1),none⟩=some (.int .i64 x1)) (first | go_keep | exact HKK.out _ (by (focus ((repeat (first | assumption | exact Al _ _ | exact Ai _ _ | exact Af _ _ _ | refine Ae ?_ (Af _ _ _) | refine Ae ?_ (Ai _ _) | refine Ae ?_ (by assumption)));done))))
           ((go_at_call 242;refine (V2 _ m0 e0 m1' e1' (step-x0) (x1-x0) HN0.out HN1.out HK.out.1 HK.out.2.1 HK.out.2.2).mono ?_;rintro e w4 ⟨v4,rfl,hv4,hg4⟩;rw [←HR.out] at hv4;obtain ⟨A5,c5,A6,c6,rfl,hkk⟩:=hv4.res;have HG4:=Ac (show wr.grownBy w4 none by (focus ((repeat (first | assumption | exact Al _ _ | exact Ai _ _ | exact Af _ _ _ | refine Ae ?_ (Af _ _ _) | refine Ae ?_ (Ai _ _) | refine Ae ?_ (by assumption)));done)));have HGF:=Ac (Ae HG2.out HG4.out);have HB4:=Ac (HZ.out.more HG4.out);obtain ⟨z0,z1,z2,z3,f0,f1,f2,f3⟩:=HB4.out.four))
          all_goals
            generalize decide (R.num<0)=sr at *
            generalize (d16 R.num).length=nr at *
            generalize (d16 (R.den:Int)).length=nt at *
            go_wp2_with fail
            try simp only [Exit.inBlock,Exit.then]
            obtain ⟨w5,hw5⟩:∃ W,W=((((w4.setCell ⟨s+1,0,none⟩ (.bool sr)).setCell ⟨s+1,1,none⟩ (.slice A5 nr c5)).setCell ⟨s+1,2,none⟩ (.bool false)).setCell ⟨s+1,3,none⟩ (.slice A6 nt c6)):=⟨_,rfl⟩
            rw [←hw5]
            have hB5:Blk w5 (s+1) #[.bool sr,.slice A5 nr c5,.bool false,.slice A6 nt c6]:=by rw [hw5];exact (((HB4.out.set 0 _).set 1 _).set 2 _).set 3 _
            have hG5:w4.grownBy w5 (some (s+1)):=by rw [hw5];exact Jl _ _ _ _ _ _
            clear z0 z1 z2 z3 f0 f1 f2 f3 hw5
            obtain ⟨z0,z1,z2,z3,_⟩:=hB5.four
            refine bodyPost_ret (v:=.agg #[.bool sr,.slice A5 nr c5,.bool false,.slice A6 nt c6]) (by simp [results,Tryz.results171,go_sem,z0,z1,z2,z3]) rfl ⟨_,rfl,hkk _ _ _ HB4.out (by simp) hG5,Aw (HGF.out) hG5 (by have:=HS.out;omega)⟩
        · have HB2:Hid (∀ t,t<j+1+1→steps.getD t 0≤step):=Ac fun t ht=>by
            by_cases h:t=j+1
            · subst h;rw [HX1.out];omega
            · exact hb.out t (by omega)
          generalize steps.getD j 0=x0 at *
          have d0:decide (x0≤step)=true:=by rw [decide_eq_true_iff];exact hx0
          have d1:decide (step<x1)=false:=by rw [decide_eq_false_iff_not];exact hs1
          go_wp2_with fail
          exact ⟨⟨j+1,by omega,by go_num,trivial,HB2⟩,by simp [intOf];omega⟩
      · have i3:¬ (j:Int)+1<(nv:Int):=by omega
        have hjn:j+1=nv:=by omega
        have hc:cntS steps step=j+1:=Y3 hb.out (by rw [HNV.out.2];omega) (fun h=>by rw [HNV.out.2] at h;omega)
        rw [hc] at HQ
        have HR:=Ac (HQ.out.trans ((if_neg (by omega)).trans (if_pos hjn)))
        rw [Nat.add_sub_cancel] at HR
        obtain ⟨_,_,e',q0,q1⟩:=HV.out.at (i:=j) (by have:=HNV.out.1;omega)
        injection e' with e';injection e' with e1' e2' _;subst e1' e2'
        have HN0:=Ac (HNO.out j)
        generalize vals.getD j (0,0)=p0 at *
        obtain ⟨m0,e0⟩:=p0
        simp only at q0 q1 HN0 HR
        have e1:IntKind.i64.wrap ((j:Int)+1-1)=(j:Int):=by rw [Int.add_sub_cancel];exact IntWalk.i64_in _ (by omega)
        have e2:IntKind.i64.wrap (j:Int)=(j:Int):=IntWalk.i64_in _ (by omega)
        have e5:IntKind.i64.wrap ((j:Int)+1+1)=(j:Int)+1+1:=IntWalk.i64_in _ (by omega)
        have i0:(j:Int)<(nv:Int):=by omega
        have e6:IntKind.i64.wrap ((nv:Int)-1)=(j:Int):=by rw [show (nv:Int)-1=(j:Int) by omega];exact e2
        clear HQ hb HMID HNO hst hc hjn
        go_wp2_with fail
        refine (N7 wr m0 e0 HN0.out).mono ?_
        rintro e w4 ⟨v4,rfl,hv4,hg4⟩
        rw [←HR.out] at hv4
        obtain ⟨A5,c5,A6,c6,rfl,hkk⟩:=hv4.res
        have HGF:=Ac (Ae HG2.out hg4)
        have HB4:=Ac (HZ.out.more hg4)
        obtain ⟨z0,z1,z2,z3,f0,f1,f2,f3⟩:=HB4.out.four
        generalize decide (R.num<0)=sr at *
        generalize (d16 R.num).length=nr at *
        generalize (d16 (R.den:Int)).length=nt at *
        go_wp2_with fail
        try simp only [Exit.inBlock,Exit.then]
        obtain ⟨w5,hw5⟩:∃ W,W=((((w4.setCell ⟨s+1,0,none⟩ (.bool sr)).setCell ⟨s+1,1,none⟩ (.slice A5 nr c5)).setCell ⟨s+1,2,none⟩ (.bool false)).setCell ⟨s+1,3,none⟩ (.slice A6 nt c6)):=⟨_,rfl⟩
        rw [←hw5]
        have hB5:Blk w5 (s+1) #[.bool sr,.slice A5 nr c5,.bool false,.slice A6 nt c6]:=by rw [hw5];exact (((HB4.out.set 0 _).set 1 _).set 2 _).set 3 _
        have hG5:w4.grownBy w5 (some (s+1)):=by rw [hw5];exact Jl _ _ _ _ _ _
        clear z0 z1 z2 z3 f0 f1 f2 f3 hw5
        obtain ⟨z0,z1,z2,z3,_⟩:=hB5.four
        refine bodyPost_ret (v:=.agg #[.bool sr,.slice A5 nr c5,.bool false,.slice A6 nt c6]) (by simp [results,Tryz.results171,go_sem,z0,z1,z2,z3]) rfl ⟨_,rfl,hkk _ _ _ HB4.out (by simp) hG5,Aw (HGF.out) hG5 (by have:=HS.out;omega)⟩
end
section
open Go.RowKit Go.Maps
open Rat
set_option maxRecDepth 100000 in
theorem A30 (w:World) (v1:Value) (q:Rat) (ha:FQ w v1 q) (K:Nat) (lq:L16 q K) (hK:K≤500000000000) :
  Calls Tryz.prog 169 #[v1] w fun e w'=>e=.returned (.tuple #[.int .i64 (Y0 q),.int .i64 (Y4 q)])∧w.grownBy w' none:=by
 have HN:=Ac fun W u (a:FQ W u q)=>A32 W u q a K lq hK
 have HL:Hid ((d16 (Ja q.num q.den)).length≤1099511627776):=Ac (by
  have h1:(d16 (q.num.tdiv q.den)).length≤500000000000:=Nat.le_trans (Ym (D7 _ _)) (Nat.le_trans lq.1 hK)
  have h2:(d16 q.num.sign).length≤500000000000:=by
   have:=Oj q.num
   unfold d16
   exact Nat.le_trans ((Bz 65536 (by omega) _ 1).2 (by omega)) (by omega)
  unfold Ja
  split
  ·have:=A0j h1 h2;omega
  ·omega)
 have HV:Hid (Y0 q=if OnG (Ja q.num q.den) then Ja q.num q.den else 0):=Ac rfl
 have HE:Hid (Y4 q=if OnG (Ja q.num q.den) then 0 else 4):=Ac rfl
 obtain ⟨A1,c1,A2,c2,rfl,_,_⟩:=id ha
 have ga:=Af w (.cells #[.bool (decide (q.num<0)),.slice A1 (d16 q.num).length c1,.bool false,.slice A2 (d16 (q.den:Int)).length c2] 143) none
 have HA:=Ac (ha.more ga)
 have HB:=Ac (Blk.new w #[.bool (decide (q.num<0)),.slice A1 (d16 q.num).length c1,.bool false,.slice A2 (d16 (q.den:Int)).length c2] 143)
 have HGW:=Ac ga
 clear ha lq ga
 generalize Y0 q=V at *
 generalize Y4 q=E at *
 generalize Ja q.num q.den=z at *
 generalize decide (q.num<0)=sa at *
 generalize (d16 q.num).length=na at *
 generalize (d16 (q.den:Int)).length=nb at *
 obtain ⟨x0,x1,x2,x3,_⟩:=HB.out.four
 go_enter Tryz.func169,Tryz.ntmps169
 go_wp2_with fail
 generalize w.alloc (.cells #[.bool sa,.slice A1 na c1,.bool false,.slice A2 nb c2] 143)=wa at *
 generalize w.heap.size=s at *
 refine (HN.out wa _ HA.out).mono ?_
 rintro e w1 ⟨nv,rfl,hn,hg1⟩
 have HN1:=Ac hn
 have HG1:=Ac (Ae HGW.out hg1)
 clear hn hg1 x0 x1 x2 x3
 go_wp2_with fail
 have hC:=A2s w1 nv z HN1.out HL.out
 by_cases hg:OnG z
 ·have hz:-9223372036854775808≤z∧z≤9223372036854775807:=by unfold OnG at hg;omega
  rw [if_pos hz,decide_eq_true hz] at hC
  have HVV:=Ac (HV.out.trans (if_pos hg))
  have HEE:=Ac (HE.out.trans (if_pos hg))
  unfold OnG at hg
  have d1:¬ 1000000000000000000<z:=by omega
  have d2:¬ z < -1000000000000000000:=by omega
  have HC:=Ac hC
  clear hC hz hg
  refine HC.out.mono ?_
  rintro e w2 ⟨rfl,hg2⟩
  go_wp2_with fail
  go_ret2
  rw [HVV.out,HEE.out]
  exact ⟨rfl,Ae HG1.out hg2⟩
 ·have HVV:=Ac (HV.out.trans (if_neg hg))
  have HEE:=Ac (HE.out.trans (if_neg hg))
  unfold OnG at hg
  by_cases hz:-9223372036854775808≤z∧z≤9223372036854775807
  ·rw [if_pos hz,decide_eq_true hz] at hC
   have HC:=Ac hC
   by_cases d1:1000000000000000000<z
   ·clear hC hz hg
    refine HC.out.mono ?_
    rintro e w2 ⟨rfl,hg2⟩
    go_wp2_with fail
    go_ret2
    rw [HVV.out,HEE.out]
    exact ⟨rfl,Ae HG1.out hg2⟩
   ·have d2:z < -1000000000000000000:=by omega
    clear hC hz hg
    refine HC.out.mono ?_
    rintro e w2 ⟨rfl,hg2⟩
    go_wp2_with fail
    go_ret2
    rw [HVV.out,HEE.out]
    exact ⟨rfl,Ae HG1.out hg2⟩
  ·rw [if_neg hz,decide_eq_false hz] at hC
   have HC:=Ac hC
   clear hC hz hg
   refine HC.out.mono ?_
   rintro e w2 ⟨rfl,hg2⟩
   go_wp2_with fail
   go_ret2
   rw [HVV.out,HEE.out]
   exact ⟨rfl,Ae HG1.out hg2⟩
set_option maxRecDepth 100000 in
theorem A2o (w:World) (kind:Int) (vv sv:Value) (vals:List (Int × Int)) (steps:List Int) (step:Int) (hv:NumRow w vv vals) (hs:IntRow w sv steps) (hok:Di kind vals steps) (hst:0≤step∧step≤1000000000) (k2:kind≠2) (k3:kind≠3) :
    Calls Tryz.prog 171 #[.agg #[.int .i64 kind,vv,sv],.int .i64 step] w fun e w'=>∃ v,e=.returned v∧FQ w' v (Ax kind vals steps step)∧w.grownBy w' none:=by
  have hl:1≤vals.length∧vals.length≤16:=by have:=Y1 hok;omega
  have ht:=Bs (a:=step) (m:=(vals.length:Int)) (by omega) (by omega)
  obtain ⟨Av,cv,rfl,_,_⟩:=id hv
  obtain ⟨As,cs,rfl,_,_⟩:=hs.ctor
  obtain ⟨j,hj⟩:∃ j:Nat,step.tmod (vals.length:Int)=(j:Int):=⟨(step.tmod (vals.length:Int)).toNat,by omega⟩
  have hj2:step % (vals.length:Int)=(j:Int):=by rw [←hj,Int.tmod_eq_emod_of_nonneg (by omega)]
  have hQ:Ax kind vals steps step=numQ (vals.getD j (0,0)).1 (vals.getD j (0,0)).2:=by
    unfold Ax
    by_cases k1:kind=1
    · rw [if_pos k1]
      have hl1:vals.length=1:=by have:=Y1 hok;omega
      have hj0:j=0:=by omega
      rw [hj0];rfl
    · rw [if_neg k1,if_neg k2,if_neg k3,hj];rfl
  rw [hj] at ht
  obtain ⟨b,o,rfl,q0,q1⟩:=hv.at (i:=j) (by omega)
  have hb:b≠w.heap.size+1:=by have:=Dp q0;omega
  have hno:=Bm hok.1 j
  rw [hQ]
  have gw:=Ae (Af w (.cells #[.int .i64 kind,.slice (some ⟨b,o,none⟩) vals.length cv,.slice As steps.length cs] 85) none) (Af _ (.cells #[.bool false,.slice none 0 0,.bool false,.slice none 0 0] 143) none)
  have hB:=(Blk.new w #[.int .i64 kind,.slice (some ⟨b,o,none⟩) vals.length cv,.slice As steps.length cs] 85).more (Af _ (.cells #[.bool false,.slice none 0 0,.bool false,.slice none 0 0] 143) none)
  have hZ:=Blk.new (w.alloc (.cells #[.int .i64 kind,.slice (some ⟨b,o,none⟩) vals.length cv,.slice As steps.length cs] 85)) #[.bool false,.slice none 0 0,.bool false,.slice none 0 0] 143
  rw [World.size_alloc] at hZ
  have HZ:=Ac hZ
  have m0':=hB.cell 0
  have m1:=hB.cell 1
  have m2:=hB.cell 2
  simp only [List.getElem?_toArray,List.getElem?_cons_zero,List.getElem?_cons_succ] at m0' m1 m2
  have q0:=Aj gw q0 (by simp)
  have q1:=Aj gw q1 (by simp)
  have HG2:=Ac gw
  have t2:(kind==2)=false:=by rw [beq_eq_false_iff_ne];exact k2
  have t3:(kind==3)=false:=by rw [beq_eq_false_iff_ne];exact k3
  clear hv hs hok hst hB hZ gw k2 k3 hQ
  generalize vals.getD j (0,0)=p at *
  obtain ⟨m,e⟩:=p
  simp only at q0 q1 hno
  have HNN:=Ac hno
  obtain ⟨R,hR⟩:∃ R,numQ m e=R:=⟨_,rfl⟩
  simp only
  rw [hR]
  have HR:=Ac hR
  clear hno hR
  generalize vals.length=nv at *
  have hnz:((nv:Int)==0)=false:=by rw [beq_eq_false_iff_ne];omega
  have hnz2:(nv:Int)≠0:=by omega
  have hnz3:nv≠0:=by omega
  have hlt:(j:Int)<(nv:Int):=ht.2
  have e1:IntKind.i64.wrap (j:Int)=(j:Int):=IntWalk.i64_in _ (by omega)
  go_enter Tryz.func171,Tryz.ntmps171
  go_wp2_with fail
  generalize (w.alloc (.cells #[.int .i64 kind,.slice (some ⟨b,o,none⟩) nv cv,.slice As steps.length cs] 85)).alloc (.cells #[.bool false,.slice none 0 0,.bool false,.slice none 0 0] 143)=wa at *
  generalize hs:w.heap.size=s at *
  have HS:=Ac hs
  clear hs
  have ne1:s≠s+1:=by omega
  have ne2:s+1≠s:=by omega
  have ne3:=Ne.symm hb
  have HKK:=Ac (fun W (h:wa.grownBy W none)=>(⟨Aj h m1 (by simp),Aj h q0 (by simp),Aj h q1 (by simp)⟩:W.cell? ⟨s,1,none⟩=some (.slice (some ⟨b,o,none⟩) nv cv)∧W.cell? ⟨b,o+j*2,none⟩=some (.int .i64 m)∧W.cell? ⟨b,o+j*2+1,none⟩=some (.int .i64 e)))
  go_region_held3 (fun W=>W.cell? ⟨s,1,none⟩=some (.slice (some ⟨b,o,none⟩) nv cv)∧W.cell? ⟨b,o+j*2,none⟩=some (.int .i64 m)∧W.cell? ⟨b,o+j*2+1,none⟩=some (.int .i64 e)) (first | go_keep | exact HKK.out _ (by (focus ((repeat (first | assumption | exact Al _ _ | exact Ai _ _ | exact Af _ _ _ | refine Ae ?_ (Af _ _ _) | refine Ae ?_ (Ai _ _) | refine Ae ?_ (by assumption)));done))))
   ((go_at_call 120;refine (N7 _ m e HNN.out).mono ?_;rintro e' w4 ⟨v4,rfl,hv4,hg4⟩;rw [HR.out] at hv4;obtain ⟨A5,c5,A6,c6,rfl,hkk⟩:=hv4.res;have HG4:=Ac (show wa.grownBy w4 none by (focus ((repeat (first | assumption | exact Al _ _ | exact Ai _ _ | exact Af _ _ _ | refine Ae ?_ (Af _ _ _) | refine Ae ?_ (Ai _ _) | refine Ae ?_ (by assumption)));done)));have HGF:=Ac (Ae HG2.out HG4.out);have HB4:=Ac (HZ.out.more HG4.out);obtain ⟨z0,z1,z2,z3,f0,f1,f2,f3⟩:=HB4.out.four))
  all_goals
    generalize decide (R.num<0)=sr at *
    generalize (d16 R.num).length=nr at *
    generalize (d16 (R.den:Int)).length=nt at *
    go_wp2_with fail
    try simp only [Exit.inBlock,Exit.then]
    obtain ⟨w5,hw5⟩:∃ W,W=((((w4.setCell ⟨s+1,0,none⟩ (.bool sr)).setCell ⟨s+1,1,none⟩ (.slice A5 nr c5)).setCell ⟨s+1,2,none⟩ (.bool false)).setCell ⟨s+1,3,none⟩ (.slice A6 nt c6)):=⟨_,rfl⟩
    rw [←hw5]
    have hB5:Blk w5 (s+1) #[.bool sr,.slice A5 nr c5,.bool false,.slice A6 nt c6]:=by rw [hw5];exact (((HB4.out.set 0 _).set 1 _).set 2 _).set 3 _
    have hG5:w4.grownBy w5 (some (s+1)):=by rw [hw5];exact Jl _ _ _ _ _ _
    clear z0 z1 z2 z3 f0 f1 f2 f3 hw5
    obtain ⟨z0,z1,z2,z3,_⟩:=hB5.four
    refine bodyPost_ret (v:=.agg #[.bool sr,.slice A5 nr c5,.bool false,.slice A6 nt c6]) (by simp [results,Tryz.results171,go_sem,z0,z1,z2,z3]) rfl ⟨_,rfl,hkk _ _ _ HB4.out (by simp) hG5,Aw (HGF.out) hG5 (by have:=HS.out;omega)⟩
theorem A34 (w:World) (kind:Int) (vv sv:Value) (vals:List (Int × Int)) (steps:List Int) (step:Int) (hv:NumRow w vv vals) (hs:IntRow w sv steps) (hok:Di kind vals steps) (hst:0≤step∧step≤1000000000) :
  Calls Tryz.prog 171 #[.agg #[.int .i64 kind,vv,sv],.int .i64 step] w fun e w'=>∃ v,e=.returned v∧FQ w' v (Ax kind vals steps step)∧w.grownBy w' none:=by
 by_cases k2:kind=2
 ·subst k2;exact A2p w vv sv vals steps step hv hs hok hst
 by_cases k3:kind=3
 ·subst k3;exact A2q w vv sv vals steps step hv hs hok hst
 exact A2o w kind vv sv vals steps step hv hs hok hst k2 k3
theorem L16.lim {q:Rat} {k:Nat} (h:LimQ q k):L16 q (2*k):=⟨by have:=A3g q.num;have:=h.1;omega,by have:=A3g (q.den:Int);have:=h.2;omega⟩
theorem A43:nano=((1000000000:Int):Rat):=by unfold nano;rw [Rat.divInt_eq_div];decide +kernel
set_option maxRecDepth 100000 in
theorem A39 (w:World) (kind:Int) (vv sv:Value) (vals:List (Int × Int)) (steps:List Int) (step:Int) (hv:NumRow w vv vals) (hs:IntRow w sv steps) :
  Calls Tryz.prog 86 #[.agg #[.int .i64 kind,vv,sv],.int .i64 step] w fun e w'=>e=.returned (.tuple #[.int .i64 (atV kind vals steps step),.int .i64 (atE kind vals steps step)])∧w.grownBy w' none:=by
 obtain ⟨Av,cv,rfl,_,_⟩:=id hv
 obtain ⟨As,cs,rfl,_,_⟩:=hs.ctor
 have gw:=Af w (.cells #[.int .i64 kind,.slice Av vals.length cv,.slice As steps.length cs] 85) none
 have hB:=Blk.new w #[.int .i64 kind,.slice Av vals.length cv,.slice As steps.length cs] 85
 have HV:=Ac (hv.more gw)
 have HS:=Ac (hs.more gw)
 have HW:=Ac (Ou _ kind _ _ vals steps HV.out HS.out)
 have HGW:=Ac gw
 have m0:=hB.cell 0
 have m1:=hB.cell 1
 have m2:=hB.cell 2
 simp only [List.getElem?_toArray,List.getElem?_cons_zero,List.getElem?_cons_succ] at m0 m1 m2
 obtain ⟨D,hD⟩:∃ D,decide (Di kind vals steps)=D:=⟨_,rfl⟩
 rw [hD] at HW
 obtain ⟨V,hV⟩:∃ V,atV kind vals steps step=V:=⟨_,rfl⟩
 obtain ⟨E,hE⟩:∃ E,atE kind vals steps step=E:=⟨_,rfl⟩
 rw [hV,hE]
 have HVE:Hid (V=atV kind vals steps step∧E=atE kind vals steps step):=Ac ⟨hV.symm,hE.symm⟩
 have HD:=Ac hD
 clear hv hs gw hB hD hV hE
 go_enter Tryz.func86,Tryz.ntmps86
 go_wp2_with fail
 generalize w.alloc (.cells #[.int .i64 kind,.slice Av vals.length cv,.slice As steps.length cs] 85)=wa at *
 generalize w.heap.size=s at *
 refine HW.out.mono ?_
 rintro e' w1 ⟨rfl,hg1⟩
 have m0:=Aj hg1 m0 (by simp)
 have m1:=Aj hg1 m1 (by simp)
 have m2:=Aj hg1 m2 (by simp)
 have HV:=Ac (HV.out.more hg1)
 have HS:=Ac (HS.out.more hg1)
 have HG1:=Ac (Ae HGW.out hg1)
 clear hg1 HW
 cases D with
 | false =>
  have HN:=Ac (A45 (step:=step) (of_decide_eq_false HD.out))
  go_wp2_with fail
  go_ret2
  rw [HVE.out.1,HVE.out.2,HN.out.1,HN.out.2]
  exact ⟨rfl,HG1.out⟩
 | true =>
 have HWK:=Ac (of_decide_eq_true HD.out)
 clear HD
 by_cases h1:step<0
 ·have HN:=Ac (A2t HWK.out (.inl h1))
  go_wp2_with fail
  go_ret2
  rw [HVE.out.1,HVE.out.2,HN.out.1,HN.out.2]
  exact ⟨rfl,HG1.out⟩
 by_cases h2:1000000000<step
 ·have HN:=Ac (A2t HWK.out (.inr h2))
  go_wp2_with fail
  go_ret2
  rw [HVE.out.1,HVE.out.2,HN.out.1,HN.out.2]
  exact ⟨rfl,HG1.out⟩
 have HST:Hid (0≤step∧step≤1000000000):=Ac ⟨by omega,by omega⟩
 have HOK:Hid (V=Y0 (Ax kind vals steps step*nano)∧E=Y4 (Ax kind vals steps step*nano)):=Ac ⟨HVE.out.1.trans (A3e HWK.out HST.out).1,HVE.out.2.trans (A3e HWK.out HST.out).2⟩
 rw [A43] at HOK
 have HLS:=Ac (L16.lim (A2f HWK.out HST.out))
 have hSY:=A34 w1 kind _ _ vals steps step HV.out HS.out HWK.out HST.out
 generalize Ax kind vals steps step=Q at *
 have HSY:=Ac hSY
 clear hSY HVE HWK
 go_wp2_with fail
 refine HSY.out.mono ?_
 rintro e w2 ⟨v2,rfl,hv2,hg2⟩
 have HV2:=Ac hv2
 have HG2:=Ac (Ae HG1.out hg2)
 clear hv2 hg2 m0 m1 m2
 go_wp2_with fail
 refine (A2b w2 v2 Q HV2.out 58 (HLS.out.mono (by omega)) (by omega) (by omega)).mono ?_
 rintro e w3 ⟨v3,rfl,hv3,hg3⟩
 have HV3:=Ac hv3
 have HG3:=Ac (Ae HG2.out hg3)
 clear hv3 hg3
 go_wp2_with fail
 have hC:=A30 w3 v3 (Q*((1000000000:Int):Rat)) HV3.out 116 (L16.mul HLS.out (A3o.mono (by omega))) (by omega)
 rw [←HOK.out.1,←HOK.out.2] at hC
 refine hC.mono ?_
 rintro e w4 ⟨rfl,hg4⟩
 clear hC
 go_wp2_with fail
 go_ret2
 exact ⟨rfl,Ae HG3.out hg4⟩
end
end Go.Proofs.YtckbiimikeiejaaGreatDoor
