/- RefL RefR RefS RefT. -/
import Derived.Test.YtmfmfpmkgmkgiaaGreatDoorMaq
import Derived.Test.YtmfmfpmkgmkgiaaGreatDoorMay
import Derived.Deep.DeepCutAuto
import Derived.Deep.RegionHeld3
set_option linter.unusedVariables false
set_option linter.unusedSimpArgs false
set_option maxHeartbeats 40000000
namespace Go.Proofs.YtmfmfpmkgmkgiaaGreatDoor
section
open Go.RowKit Go.Maps
open Rat
def OwnI (w:World) (g:Nat) (xs:List Nat):Prop:=∃ T,w.heap[g]? = some (.cells (i64s xs).toArray T (0,0))
theorem J4 (xs:List Nat):(i64s xs).length=xs.length:=by simp [i64s]
theorem Np (xs:List Nat) (i:Nat) (h:i<xs.length):(i64s xs)[i]? = some (.int .i64 ((xs[i]?.getD 0:Nat):Int)):=by
 simp [i64s,List.getElem?_eq_getElem h]
theorem OwnI.cell {w:World} {g:Nat} {xs:List Nat} (h:OwnI w g xs) (i:Nat) (hi:i<xs.length):w.cell? ⟨g,i,none⟩=some (.int .i64 ((xs[i]?.getD 0:Nat):Int)):=by
 obtain ⟨T,hh⟩:=h
 rw [Ay hh]
 simpa using Np xs i hi
theorem OwnI.free {w:World} {g:Nat} {xs:List Nat} (h:OwnI w g xs) (i:Nat):w.frozen? ⟨g,i,none⟩=false:=by
 obtain ⟨T,hh⟩:=h
 exact Bj hh i
theorem OwnI.set {w:World} {g:Nat} {xs:List Nat} (h:OwnI w g xs) (i n:Nat) (z:Int) (hz:z=(n:Int)):OwnI (w.setCell ⟨g,i,none⟩ (.int .i64 z)) g (xs.set i n):=by
 subst hz
 obtain ⟨T,hh⟩:=h
 exact ⟨T,by rw [C4 hh];simp [i64s,List.map_set]⟩
theorem OwnI.d16 {w:World} {g:Nat} {xs:List Nat} (h:OwnI w g xs) (hx:∀ x∈xs,x<65536) (hl:xs.length≤9223372036854775807):D16 w (.slice (some ⟨g,0,none⟩) xs.length xs.length) xs :=
 ⟨.inr ⟨g,0,xs.length,rfl,Nat.le_refl _,hl,fun i hi=>by rw [Nat.zero_add];exact h.cell i hi⟩,hx⟩
theorem OwnI.more {w w':World} {g:Nat} {xs:List Nat} (h:OwnI w g xs) (hg:w.grownBy w' none):OwnI w' g xs:=by
 obtain ⟨T,hh⟩:=h
 exact ⟨T,Do hg hh (by simp)⟩
theorem Sj {P:Program} (t e:TypeId) (ht:P.underlying t=some (.slice e)) (hinfo:(P.info? e).map (fun i=>(i.zero,i.size,i.bytes))=some (some (.int .i64 0),1,8))
  (n:Nat) (hn:n≤8796093022208) (N:Int) (hN:N=(n:Int)) (W:World) :
  (Instr.makeSlice t (.int .i64 N) (.int .i64 N)).run P W=.ok (.slice (some ⟨W.heap.size,0,none⟩) n n) (W.alloc (.cells (i64s (List.replicate n 0)).toArray e)):=by
 subst hN
 rw [run_make_row' t e (.int .i64 0) 8 ht hinfo rfl .i64 .i64 n (by omega) (by omega) W]
 congr 2
 congr 1
 apply Array.ext
 ·simp [madeCells,i64s]
 ·intro i h1 h2
  simp [madeCells,i64s,Nat.mod_one]
set_option maxRecDepth 100000 in
theorem Eg (w:World) (v1 v2:Value) (x y:Int) (hx:NZ w v1 x) (hy:NZ w v2 y) (lx:(d16 x).length≤1099511627776) (ly:(d16 y).length≤1099511627776) :
  Calls Tryz.prog 107 #[v1,v2] w fun e w'=>∃ nv,e=.returned nv∧NZ w' nv (x*y)∧w.grownBy w' none:=by
 obtain ⟨u1,rfl,hx⟩:=hx
 obtain ⟨u2,rfl,hy⟩:=hy
 obtain ⟨A1,c1,rfl,_⟩:=hx.ctor
 obtain ⟨A2,c2,rfl,_⟩:=hy.ctor
 have HVX:Hid (val 65536 (d16 x)=x.natAbs):=Ac (Ei x)
 have HVY:Hid (val 65536 (d16 y)=y.natAbs):=Ac (Ei y)
 generalize d16 x=xs at *
 generalize d16 y=ys at *
 generalize hd1:decide (x<0)=n1 at *
 generalize hd2:decide (y<0)=n2 at *
 have HN1:=Ac hd1
 have HN2:=Ac hd2
 clear hd1 hd2
 have gw:=Ae (Ae (Af w (.cells #[.bool n1,.slice A1 xs.length c1] 122) none) (Af _ (.cells #[.bool n2,.slice A2 ys.length c2] 122) none)) (Af _ (.cells #[.bool false,.slice none 0 0] 122) none)
 have hB1:=(Blk.new w #[.bool n1,.slice A1 xs.length c1] 122).more (Ae (Af _ (.cells #[.bool n2,.slice A2 ys.length c2] 122) none) (Af _ (.cells #[.bool false,.slice none 0 0] 122) none))
 have hB2:=(Blk.new (w.alloc (.cells #[.bool n1,.slice A1 xs.length c1] 122)) #[.bool n2,.slice A2 ys.length c2] 122).more (Af _ (.cells #[.bool false,.slice none 0 0] 122) none)
 have hB3:=Blk.new ((w.alloc (.cells #[.bool n1,.slice A1 xs.length c1] 122)).alloc (.cells #[.bool n2,.slice A2 ys.length c2] 122)) #[.bool false,.slice none 0 0] 122
 rw [World.size_alloc] at hB2 hB3
 rw [World.size_alloc] at hB3
 have hsz:(((w.alloc (.cells #[.bool n1,.slice A1 xs.length c1] 122)).alloc (.cells #[.bool n2,.slice A2 ys.length c2] 122)).alloc (.cells #[.bool false,.slice none 0 0] 122)).heap.size=w.heap.size+1+1+1:=by simp
 have HX:=Ac (hx.more gw)
 have HY:=Ac (hy.more gw)
 have HB1:=Ac hB1
 have HB2:=Ac hB2
 have HB3:=Ac hB3
 have HSZ:=Ac hsz
 have HGW:=Ac gw
 clear hx hy hB1 hB2 hB3 hsz gw
 have hmk:=Sj (P:=Tryz.prog) 30 3 Tryz.underlying30 Cm (xs.length+ys.length) (by omega) ((xs.length:Int)+(ys.length:Int)) (by omega)
 go_enter Tryz.func107,Tryz.ntmps107
 go_wp2_with fail
 generalize ((w.alloc (.cells #[.bool n1,.slice A1 xs.length c1] 122)).alloc (.cells #[.bool n2,.slice A2 ys.length c2] 122)).alloc (.cells #[.bool false,.slice none 0 0] 122)=wa at *
 generalize hs:w.heap.size=s at *
 have HS:=Ac hs
 clear hs
 obtain ⟨x0,x1,_⟩:=HB1.out.two
 obtain ⟨y0,y1,_⟩:=HB2.out.two
 have hws:IntKind.i64.wrap ((xs.length:Int)+(ys.length:Int))=(xs.length:Int)+(ys.length:Int):=IntWalk.i64_in _ (by omega)
 go_wp2_with fail
 have g1:=Af wa (.cells (i64s (List.replicate (xs.length+ys.length) 0)).toArray 3) none
 have ho0:OwnI (wa.alloc (.cells (i64s (List.replicate (xs.length+ys.length) 0)).toArray 3)) (s+1+1+1) (List.replicate (xs.length+ys.length) 0):=⟨3,Gu _ HSZ.out.symm⟩
 clear hmk hws
 go_loopw [6] (fun iv wr=>∃ (k:Nat) (os:List Nat),k≤xs.length∧iv=.int .i64 k∧wa.grownBy wr none∧Hid (OwnI wr (s+1+1+1) os)∧Hid (TimOut os xs ys k)) (fun iv _=>(xs.length-intOf iv).toNat)
 case atStart=>exact ⟨0,_,by omega,rfl,g1,Ac ho0,Ac (TimOut.start xs ys)⟩
 case round =>
  clear g1 ho0
  obtain ⟨k,os,hk,rfl,hg,ho,hv⟩:=hrel
  have x0:=Aj hg x0 (by simp)
  have x1:=Aj hg x1 (by simp)
  have y0:=Aj hg y0 (by simp)
  have y1:=Aj hg y1 (by simp)
  by_cases hlt:k<xs.length
  ·obtain ⟨b1,o1,rfl,u1,lx1⟩:=(HX.out.more hg).at hlt
   have hxk:xs[k]?.getD 0=xs.getD k 0:=(List.getD_eq_getElem?_getD ..).symm
   generalize xs.getD k 0=x' at *
   have HXK:=Ac hxk
   have HLT:=Ac hlt
   clear hxk
   go_wp2_with fail
   obtain ⟨wo,rfl⟩:∃ wo:World,wo=wr:=⟨_,rfl⟩
   go_loopw [7,8] (fun cv jv wr=>∃ (j cy:Nat) (os:List Nat),j≤ys.length∧jv=.int .i64 j∧cv=.int .i64 cy∧cy<65536∧wa.grownBy wr none∧Hid (OwnI wr (s+1+1+1) os)∧Hid (TimIn os xs ys k j cy)) (fun _ jv _=>(ys.length-intOf jv).toNat)
   case atStart=>exact ⟨0,0,os,by omega,rfl,rfl,by omega,hg,ho,Ac hv.out.enter⟩
   case round =>
    clear ho hv hg x0 x1 y0 y1 u1
    obtain ⟨j,cy,os,hj,rfl,rfl,hcy,hg,ho,hv⟩:=hrel
    obtain ⟨x0,x1,_⟩:=(HB1.out.more hg).two
    obtain ⟨y0,y1,_⟩:=(HB2.out.more hg).two
    by_cases hjt:j<ys.length
    ·obtain ⟨b2,o2,rfl,u2,ly1⟩:=(HY.out.more hg).at hjt
     obtain ⟨b1',o1',e,u1,_⟩:=(HX.out.more hg).at hlt
     injection e with e;injection e with e1 e2
     subst e1 e2
     have hyk:ys[j]?.getD 0=ys.getD j 0:=(List.getD_eq_getElem?_getD ..).symm
     have hx2:xs.getD k 0=x':=by rw [List.getD_eq_getElem?_getD];exact HXK.out
     rw [hx2] at u1
     generalize ys.getD j 0=y' at *
     have u3:=ho.out.cell (k+j) (by rw [hv.out.1];omega)
     have f3:=ho.out.free (k+j)
     have lu:=Eq (B:=65536) (by omega) hv.out.2.1 (k+j)
     rw [List.getD_eq_getElem?_getD] at lu
     have hsm:=Xs lx1 ly1 lu hcy
     generalize huk:os[k+j]?.getD 0=u at *
     obtain ⟨t,ht⟩:∃ t:Nat,t=u+x'*y'+cy:=⟨_,rfl⟩
     have HT:=Ac ht
     have p1:(x':Int)*(y':Int)=((x'*y':Nat):Int):=(Int.natCast_mul _ _).symm
     have hpl:x'*y'≤4294967295:=by omega
     rw [←ht] at hsm
     have ht2:(u:Int)+((x'*y':Nat):Int)+(cy:Int)=(t:Int):=by omega
     generalize hpp:x'*y'=pp at *
     have HPP:=Ac hpp
     clear hpp
     have q0:IntKind.i64.wrap ((k:Int)+(j:Int))=(k:Int)+(j:Int):=IntWalk.i64_in _ (by omega)
     have q1:((k:Int)+(j:Int)).toNat=k+j:=by omega
     have q2:(0:Int)≤(k:Int)+(j:Int):=by omega
     have q3:(k:Int)+(j:Int)<(xs.length:Int)+(ys.length:Int):=by omega
     have q4:IntKind.i64.wrap (pp:Int)=(pp:Int):=IntWalk.i64_in _ (by omega)
     have q5:IntKind.i64.wrap ((u:Int)+(pp:Int))=(u:Int)+(pp:Int):=IntWalk.i64_in _ (by omega)
     have q6:IntKind.i64.wrap (t:Int)=(t:Int):=IntWalk.i64_in _ (by omega)
     have r1:(t:Int).tmod 65536=(t:Int) % 65536:=Int.tmod_eq_emod_of_nonneg (by omega)
     have r2:(t:Int).tdiv 65536=(t:Int)/65536:=Int.tdiv_eq_ediv_of_nonneg (by omega)
     have r3:IntKind.i64.wrap ((t:Int) % 65536)=(t:Int) % 65536:=IntWalk.i64_in _ (by omega)
     have r4:IntKind.i64.wrap ((t:Int)/65536)=(t:Int)/65536:=IntWalk.i64_in _ (by omega)
     have HUK:=Ac huk
     have HYK:=Ac hyk
     have HG:=Ac hg
     clear huk hyk ht hg hx2 hpl
     go_wp2_with fail
     go_quiet (fail)
     go_wp2_with fail
     have ht:=HT.out
     have hst:=hv.out.step (j:=j) (by omega) hjt
     rw [HUK.out,HXK.out,HYK.out,HPP.out,←ht] at hst
     exact ⟨⟨j+1,t/65536,_,by omega,by go_num,by go_num,by omega,Aw (Ae HG.out (Az _ _ _)) (Au _ _ _ _) (by have:=HSZ.out;omega),Ac ((ho.out.more (Az _ _ _)).set (k+j) (t % 65536) _ (by omega)),Ac hst⟩,by simp [intOf];omega⟩
    ·obtain rfl:j=ys.length:=by omega
     have u3:=ho.out.cell (k+ys.length) (by rw [hv.out.1];omega)
     have f3:=ho.out.free (k+ys.length)
     rw [hv.out.2.2.1 _ (Nat.le_refl _)] at u3
     have q0:IntKind.i64.wrap ((k:Int)+(ys.length:Int))=(k:Int)+(ys.length:Int):=IntWalk.i64_in _ (by omega)
     have q1:((k:Int)+(ys.length:Int)).toNat=k+ys.length:=by omega
     have q2:(0:Int)≤(k:Int)+(ys.length:Int):=by omega
     have q3:(k:Int)+(ys.length:Int)<(xs.length:Int)+(ys.length:Int):=by omega
     have q4:IntKind.i64.wrap (cy:Int)=(cy:Int):=IntWalk.i64_in _ (by omega)
     have HG:=Ac hg
     have HLV:=Ac (hv.out.leave hlt hcy)
     clear hg hcy
     go_wp2_with fail
     go_still_tail 17,(by kernel_rfl)
     change wpList _ _ _ _ _ wr.drew
     go_wp2_with fail
     exact ⟨⟨k+1,_,by omega,by go_num,Aw (Ae HG.out (Ai _ _)) (Au _ _ _ _) (by have:=HSZ.out;omega),Ac ((ho.out.more (Ai _ _)).set (k+ys.length) cy _ rfl),Ac HLV.out⟩,by simp [intOf];omega⟩
  ·obtain rfl:k=xs.length:=by omega
   have hval:Hid (dig 65536 (val 65536 os)=d16 (x*y)):=Ac (by rw [hv.out.end,HVX.out,HVY.out,←Int.natAbs_mul];rfl)
   have hl:os.length=xs.length+ys.length:=hv.out.1
   have hD:=ho.out.d16 hv.out.2.1 (by omega)
   rw [hl] at hD
   have HD:=Ac hD
   have HG:=Ac hg
   clear hD hv ho hg hl
   go_wp2_with fail
   clear x0 x1 y0 y1
   refine (Fu wr _ os HD.out).mono ?_
   rintro e w1 ⟨v5,rfl,hd5,hb5,rfl⟩
   rw [hval.out] at hd5
   obtain ⟨A5,c5,rfl,hl5⟩:=hd5.ctor
   obtain ⟨x0,_⟩:=(HB1.out.more HG.out).two
   obtain ⟨y0,_⟩:=(HB2.out.more HG.out).two
   obtain ⟨d0,d1,f0,f1⟩:=(HB3.out.more HG.out).two
   have HFAR:Hid ((Value.slice A5 (d16 (x*y)).length c5).ownBlock≠some (s+1+1)):=Ac (by rw [hb5];simp [Value.ownBlock])
   have HD5:=Ac hd5
   have HG1:=Ac (Ae HGW.out HG.out)
   clear hd5 hb5
   have hz0:(d16 (x*y)).length=0↔x*y=0:=by rw [List.length_eq_zero_iff];exact L0
   generalize (d16 (x*y)).length=n5 at *
   have HZ0:=Ac hz0
   clear hz0
   cases n1 with
   | false =>
    have h1:=of_decide_eq_false HN1.out
    cases n2 with
    | false =>
     have h2:=of_decide_eq_false HN2.out
     have HSGN:Hid (decide (x*y<0)=false):=Ac (decide_eq_false (by have:=Int.mul_nonneg (show 0≤x by omega) (show 0≤y by omega);omega))
     clear h1 h2
     go_wp2
     try simp only [Exit.inBlock,Exit.then]
     have hg6:wr.grownBy ((wr.setCell ⟨s+1+1,0,none⟩ (.bool false)).setCell ⟨s+1+1,1,none⟩ (.slice A5 n5 c5)) (some (s+1+1)):=Ae (Au _ _ _ _) (Au _ _ _ _)
     refine bodyPost_ret (v:=.agg #[.bool false,.slice A5 n5 c5]) (by simp [results,Tryz.results107,go_sem, *]) rfl ⟨_,rfl,⟨.slice A5 n5 c5,?_,?_⟩,Aw HG1.out hg6 (by have:=HS.out;omega)⟩
     ·rw [HSGN.out]
     ·exact HD5.out.apart hg6 HFAR.out
    | true =>
     have h2:=of_decide_eq_true HN2.out
     have h3:=Int.mul_nonpos_of_nonneg_of_nonpos (show 0≤x by omega) (show y≤0 by omega)
     have HSGN:Hid (decide (x*y<0)=decide (0<n5)):=Ac (by
      by_cases hz:n5=0
      ·have:=HZ0.out.1 hz;rw [decide_eq_false (by omega),decide_eq_false (by omega)]
      ·have h4:x*y≠0:=fun e=>hz (HZ0.out.2 e)
       rw [decide_eq_true (by omega),decide_eq_true (by omega)])
     clear h1 h2 h3
     go_wp2
     try simp only [Exit.inBlock,Exit.then]
     have hg6:wr.grownBy ((wr.setCell ⟨s+1+1,0,none⟩ (.bool (decide (0<n5)))).setCell ⟨s+1+1,1,none⟩ (.slice A5 n5 c5)) (some (s+1+1)):=Ae (Au _ _ _ _) (Au _ _ _ _)
     refine bodyPost_ret (v:=.agg #[.bool (decide (0<n5)),.slice A5 n5 c5]) (by simp [results,Tryz.results107,go_sem, *]) rfl ⟨_,rfl,⟨.slice A5 n5 c5,?_,?_⟩,Aw HG1.out hg6 (by have:=HS.out;omega)⟩
     ·rw [HSGN.out]
     ·exact HD5.out.apart hg6 HFAR.out
   | true =>
    have h1:=of_decide_eq_true HN1.out
    cases n2 with
    | false =>
     have h2:=of_decide_eq_false HN2.out
     have h3:=Int.mul_nonpos_of_nonpos_of_nonneg (show x≤0 by omega) (show 0≤y by omega)
     have HSGN:Hid (decide (x*y<0)=decide (0<n5)):=Ac (by
      by_cases hz:n5=0
      ·have:=HZ0.out.1 hz;rw [decide_eq_false (by omega),decide_eq_false (by omega)]
      ·have h4:x*y≠0:=fun e=>hz (HZ0.out.2 e)
       rw [decide_eq_true (by omega),decide_eq_true (by omega)])
     clear h1 h2 h3
     go_wp2
     try simp only [Exit.inBlock,Exit.then]
     have hg6:wr.grownBy ((wr.setCell ⟨s+1+1,0,none⟩ (.bool (decide (0<n5)))).setCell ⟨s+1+1,1,none⟩ (.slice A5 n5 c5)) (some (s+1+1)):=Ae (Au _ _ _ _) (Au _ _ _ _)
     refine bodyPost_ret (v:=.agg #[.bool (decide (0<n5)),.slice A5 n5 c5]) (by simp [results,Tryz.results107,go_sem, *]) rfl ⟨_,rfl,⟨.slice A5 n5 c5,?_,?_⟩,Aw HG1.out hg6 (by have:=HS.out;omega)⟩
     ·rw [HSGN.out]
     ·exact HD5.out.apart hg6 HFAR.out
    | true =>
     have h2:=of_decide_eq_true HN2.out
     have HSGN:Hid (decide (x*y<0)=false):=Ac (decide_eq_false (by have:=Int.mul_nonneg_of_nonpos_of_nonpos (show x≤0 by omega) (show y≤0 by omega);omega))
     clear h1 h2
     go_wp2
     try simp only [Exit.inBlock,Exit.then]
     have hg6:wr.grownBy ((wr.setCell ⟨s+1+1,0,none⟩ (.bool false)).setCell ⟨s+1+1,1,none⟩ (.slice A5 n5 c5)) (some (s+1+1)):=Ae (Au _ _ _ _) (Au _ _ _ _)
     refine bodyPost_ret (v:=.agg #[.bool false,.slice A5 n5 c5]) (by simp [results,Tryz.results107,go_sem, *]) rfl ⟨_,rfl,⟨.slice A5 n5 c5,?_,?_⟩,Aw HG1.out hg6 (by have:=HS.out;omega)⟩
     ·rw [HSGN.out]
     ·exact HD5.out.apart hg6 HFAR.out
end
section
open Go.RowKit Go.Maps
open Rat
theorem Yl {a b:Nat}:cmpN a b<0↔a<b:=by unfold cmpN;split<;>(try split)<;>omega
theorem Yk {a b:Nat}:cmpN a b≤0↔a≤b:=by unfold cmpN;split<;>(try split)<;>omega
theorem Vj (a b:Nat):d16 ((a:Int)*(b:Int))=dig 65536 (a*b):=by unfold d16;rw [Int.natAbs_mul,Int.natAbs_natCast,Int.natAbs_natCast]
theorem Ut {w:World} {v:Value} {n:Nat} (h:D16 w v (dig 65536 n)):NZ w (.agg #[.bool false,v]) (n:Int):=⟨v,by rw [decide_eq_false (by omega)],h⟩
theorem Vn (b:Bool) (A:Option Addr) (n c:Nat) (W:World):(Instr.field 122 (.agg #[.bool b,.slice A n c]) 1).run Tryz.prog W=.ok (.slice A n c) W:=by kernel_rfl
set_option maxRecDepth 100000 in
theorem Qc (w:World) (v1 v2:Value) (R B:Nat) (hx:D16 w v1 (dig 65536 R)) (hy:D16 w v2 (dig 65536 B)) (hB:0<B) (hR:R<65536*B) (lb:(dig 65536 B).length≤1099511627776) :
  Calls Tryz.prog 174 #[v1,v2] w fun e w'=>e=.returned (.int .i64 ((R/B:Nat):Int))∧w.grownBy w' none:=by
 obtain ⟨A1,c1,rfl,_⟩:=hx.ctor
 obtain ⟨A2,c2,rfl,_⟩:=hy.ctor
 obtain ⟨Q,hQ⟩:∃ Q,R/B=Q:=⟨_,rfl⟩
 rw [hQ]
 have HX:=Ac hx
 have HY:=Ac hy
 have HQ:=Ac hQ
 have HB:=Ac hB
 have HR:=Ac hR
 have HLB:=Ac lb
 clear hx hy hQ hB hR lb
 have HM:=Ac (Gw w _ _ R B HX.out HY.out)
 generalize (dig 65536 R).length=n1 at *
 generalize hn2:(dig 65536 B).length=n2 at *
 have HN2:=Ac hn2
 clear hn2
 go_enter Tryz.func174,Tryz.ntmps174
 go_wp2_with fail
 refine HM.out.mono ?_
 rintro e w1 ⟨rfl,hg1⟩
 by_cases hlt:R<B
 ·have t:cmpN R B<0:=Yl.2 hlt
  have H0:Hid (Q=0):=Ac (by rw [←HQ.out];exact Nat.div_eq_of_lt hlt)
  clear hlt
  go_wp2_with fail
  go_ret
  exact ⟨by rw [H0.out];rfl,hg1⟩
 ·have t:¬ cmpN R B<0:=fun h=>hlt (Yl.1 h)
  have HGE:=Ac (Nat.le_of_not_lt hlt)
  clear hlt
  go_wp2_with fail
  clear t
  go_loopw [5,6] (fun lv hv wr=>∃ l h:Nat,l≤h∧h≤65535∧lv=.int .i64 l∧hv=.int .i64 h∧Hid (l*B≤R∧R<(h+1)*B)∧w1.grownBy wr none) (fun lv hv _=>(intOf hv-intOf lv).toNat)
  case atStart=>exact ⟨0,65535,by omega,by omega,rfl,rfl,Ac ⟨by omega,HR.out⟩,Al _ _⟩
  case round =>
   obtain ⟨l,h,hlh,h5,rfl,rfl,hin,hg⟩:=hrel
   by_cases hlt:l<h
   ·as_aux_lemma =>
     obtain ⟨q,hq⟩:∃ q:Nat,q=(l+h+1)/2:=⟨_,rfl⟩
     have e1:((l:Int)+(h:Int)+1).tdiv 2=(q:Int):=by rw [Int.tdiv_eq_ediv_of_nonneg (by omega),hq];omega
     have e2:IntKind.i64.wrap ((l:Int)+(h:Int))=(l:Int)+(h:Int):=IntWalk.i64_in _ (by omega)
     have e3:IntKind.i64.wrap ((l:Int)+(h:Int)+1)=(l:Int)+(h:Int)+1:=IntWalk.i64_in _ (by omega)
     have e4:IntKind.i64.wrap (q:Int)=(q:Int):=IntWalk.i64_in _ (by omega)
     have hq1:l<q∧q≤h:=by omega
     have HQ1:=Ac hq1
     have H5:=Ac h5
     have HLH:=Ac hlh
     clear hq hlh
     go_wp2_with fail
     clear e1 e2 e3 e4
     refine (F6 wr q (by omega)).mono ?_
     rintro e w2 ⟨sv,rfl,hsv,hg2⟩
     have HSV:=Ac hsv
     have hgx:=Ae hg1 (Ae hg hg2)
     have HLQ:Hid ((d16 (q:Int)).length≤1099511627776):=Ac (by unfold d16;rw [Int.natAbs_natCast];have:=(Bz 65536 (by omega) q 1).2 (by omega);omega)
     have HT:=Ac (Eg w2 _ sv (B:Int) (q:Int) (Ut (HY.out.more hgx)) hsv (by unfold d16;rw [Int.natAbs_natCast,HN2.out];exact HLB.out) HLQ.out)
     have HG2:=Ac (Ae hg hg2)
     clear hsv hg hg2
     go_wp2_with fail
     refine HT.out.mono ?_
     rintro e w3 ⟨nv,rfl,⟨u,rfl,hu⟩,hg3⟩
     rw [Vj] at hu
     obtain ⟨A3,c3,rfl,_⟩:=hu.ctor
     have HMG:=Ac (Gw w3 _ _ (B*q) R hu (HX.out.more (Ae hgx hg3)))
     have HG3:=Ac (Ae HG2.out hg3)
     clear hu hg3 hgx HT
     generalize (dig 65536 (B*q)).length=n3 at *
     have hfd:=Vn (decide ((B:Int)*(q:Int)<0)) A3 n3 c3
     go_wp2_with fail
     clear hfd
     refine HMG.out.mono ?_
     rintro e w4 ⟨rfl,hg4⟩
     obtain ⟨i1,i2⟩:=hin.out
     by_cases hle:B*q≤R
     ·have t:cmpN (B*q) R≤0:=Yk.2 hle
      have HIN:Hid (q*B≤R∧R<(h+1)*B):=Ac ⟨by rw [Nat.mul_comm];exact hle,i2⟩
      have hq1:=HQ1.out
      clear hle i1 i2 hin
      go_wp2_with fail
      have h5:=H5.out
      exact ⟨⟨q,h,by omega,by omega,rfl,rfl,HIN,Ae HG3.out hg4⟩,by simp [intOf];omega⟩
     ·have t:¬ cmpN (B*q) R≤0:=fun e=>hle (Yk.1 e)
      have HIN:Hid (l*B≤R∧R<(q-1+1)*B):=Ac ⟨i1,by rw [Nat.sub_add_cancel (by have:=HQ1.out;omega),Nat.mul_comm];omega⟩
      have hq1:=HQ1.out
      clear hle i1 i2 hin
      go_wp2_with fail
      have h5:=H5.out
      exact ⟨⟨l,q-1,by omega,by omega,rfl,by go_num,HIN,Ae HG3.out hg4⟩,by simp [intOf];omega⟩
   ·as_aux_lemma =>
     obtain rfl:l=h:=by omega
     have H0:Hid (Q=l):=Ac (by rw [←HQ.out];obtain ⟨i1,i2⟩:=hin.out;exact Nat.div_eq_of_lt_le i1 (by simpa using i2))
     go_wp2_with fail
     go_ret
     exact ⟨by rw [H0.out];rfl,Ae hg1 hg⟩
end
section
open Go.RowKit Go.Maps
open Rat
theorem J2 {a b:Nat} (h:a≤b):(dig 65536 a).length≤(dig 65536 b).length :=
 (Bz 65536 (by omega) a _).2 (Nat.lt_of_le_of_lt h ((Bz 65536 (by omega) b _).1 (Nat.le_refl _)))
theorem J3 {n:Nat}:0<(dig 65536 n).length↔n≠0:=by
 have:=Fa 65536 (by omega) n;omega
def DivSt (xs:List Nat) (B m r:Nat) (qs:List Nat):Prop:=r=val 65536 (xs.drop m) % B∧qs.length=xs.length-m∧(∀ q∈qs,q<65536)∧val 65536 qs=val 65536 (xs.drop m)/B
theorem DivSt.start (xs:List Nat) (B:Nat):DivSt xs B xs.length 0 []:=by
 refine ⟨?_,by simp,by simp,?_⟩<;>rw [List.drop_length]<;>simp [val]
theorem Yq (x r B V:Nat) (hB:0<B) (hr:r=V % B):(x+65536*r) % B=(x+65536*V) % B∧(x+65536*r)/B+65536*(V/B)=(x+65536*V)/B:=by
 have h:=Nat.div_add_mod V B
 have e:x+65536*V=(x+65536*r)+B*(65536*(V/B)):=by
  have h2:65536*V=65536*(B*(V/B))+65536*(V % B):=by rw [←Nat.mul_add,h]
  rw [h2,hr,Nat.mul_left_comm];omega
 rw [e,Nat.add_mul_mod_self_left,Nat.add_mul_div_left _ _ hB]
 exact ⟨rfl,rfl⟩
theorem Pg {x r B:Nat} (hx:x<65536) (hr:r<B):x+65536*r<65536*B:=by omega
theorem DivSt.step {xs:List Nat} {B i r:Nat} {qs:List Nat} (h:DivSt xs B (i+1) r qs) (hB:0<B) (hi:i<xs.length) (hx:xs.getD i 0<65536):DivSt xs B i ((xs.getD i 0+65536*r) % B) ((xs.getD i 0+65536*r)/B::qs):=by
 obtain ⟨h1,h2,h3,h4⟩:=h
 have hd:xs.drop i=xs.getD i 0::xs.drop (i+1):=by rw [List.drop_eq_getElem_cons hi,List.getD_eq_getElem?_getD,List.getElem?_eq_getElem hi];rfl
 have hr:r<B:=by rw [h1];exact Nat.mod_lt _ hB
 obtain ⟨e1,e2⟩:=Yq (xs.getD i 0) r B (val 65536 (xs.drop (i+1))) hB h1
 refine ⟨by rw [hd];exact e1,by rw [List.length_cons,h2];omega,fun q hq=>?_,by rw [hd];simp only [val];rw [h4];exact e2⟩
 rcases List.mem_cons.1 hq with rfl | hq
 ·exact Nat.div_lt_of_lt_mul (by have:=Pg hx hr;omega)
 ·exact h3 q hq
theorem Ga (x:Int):∃ m:Nat,x=(m:Int)∨x = -(m:Int):=⟨x.natAbs,by omega⟩
theorem Vb (x y:Int):d16 (x.tdiv y)=dig 65536 (x.natAbs/y.natAbs)∧decide (x.tdiv y<0)=((decide (x<0) != decide (y<0))&&decide (0<(dig 65536 (x.natAbs/y.natAbs)).length)):=by
 refine ⟨by unfold d16;rw [Int.natAbs_tdiv];rfl,?_⟩
 have e:decide (0<(dig 65536 (x.natAbs/y.natAbs)).length)=decide (x.natAbs/y.natAbs≠0):=by rw [decide_eq_decide];exact J3
 rw [e]
 obtain ⟨m,hm⟩:=Ga x
 obtain ⟨n,hn⟩:=Ga y
 rcases hm with rfl | rfl<;>rcases hn with rfl | rfl
 ·have h:((m:Int).tdiv n)=((m/n:Nat):Int):=(Int.ofNat_tdiv m n).symm
  rw [h,decide_eq_false (Int.not_lt.2 (Int.natCast_nonneg _)),decide_eq_false (show ¬ (m:Int)<0 by omega),decide_eq_false (show ¬ (n:Int)<0 by omega)];rfl
 ·have h:((m:Int).tdiv (-n)) = -((m/n:Nat):Int):=by rw [Int.tdiv_neg,←Int.ofNat_tdiv]
  rw [h,Int.natAbs_neg,Int.natAbs_natCast,Int.natAbs_natCast]
  rcases Nat.eq_zero_or_pos (m/n) with h0 | h0
  ·rw [h0];simp
  ·have:n≠0:=by rintro rfl;simp at h0
   rw [decide_eq_true (show -((m/n:Nat):Int)<0 by omega),decide_eq_false (show ¬ (m:Int)<0 by omega),decide_eq_true (show -(n:Int)<0 by omega),decide_eq_true (show m/n≠0 by omega)];rfl
 ·have h:((-(m:Int)).tdiv n) = -((m/n:Nat):Int):=by rw [Int.neg_tdiv,←Int.ofNat_tdiv]
  rw [h,Int.natAbs_neg,Int.natAbs_natCast,Int.natAbs_natCast]
  rcases Nat.eq_zero_or_pos (m/n) with h0 | h0
  ·rw [h0];simp
  ·have:m≠0:=by rintro rfl;simp at h0
   rw [decide_eq_true (show -((m/n:Nat):Int)<0 by omega),decide_eq_true (show -(m:Int)<0 by omega),decide_eq_false (show ¬ (n:Int)<0 by omega),decide_eq_true (show m/n≠0 by omega)];rfl
 ·have h:((-(m:Int)).tdiv (-n))=((m/n:Nat):Int):=by rw [Int.neg_tdiv,Int.tdiv_neg,Int.neg_neg,←Int.ofNat_tdiv]
  rw [h,Int.natAbs_neg,Int.natAbs_neg,Int.natAbs_natCast,Int.natAbs_natCast,decide_eq_false (Int.not_lt.2 (Int.natCast_nonneg (m/n)))]
  rcases Nat.eq_zero_or_pos (m/n) with h0 | h0
  ·rw [h0];simp
  ·have h1:m≠0:=by rintro rfl;simp at h0
   have h2:n≠0:=by rintro rfl;simp at h0
   rw [decide_eq_true (show -(m:Int)<0 by omega),decide_eq_true (show -(n:Int)<0 by omega)];rfl
theorem Vc (x y:Int):d16 (x.tmod y)=dig 65536 (x.natAbs % y.natAbs)∧decide (x.tmod y<0)=(decide (x<0)&&decide (0<(dig 65536 (x.natAbs % y.natAbs)).length)):=by
 refine ⟨by unfold d16;rw [Int.natAbs_tmod],?_⟩
 have e:decide (0<(dig 65536 (x.natAbs % y.natAbs)).length)=decide (x.natAbs % y.natAbs≠0):=by rw [decide_eq_decide];exact J3
 rw [e]
 obtain ⟨m,hm⟩:=Ga x
 obtain ⟨n,hn⟩:=Ga y
 have hy:∀ z:Int,z.tmod y=z.tmod n:=by
  intro z
  rcases hn with rfl | rfl
  ·rfl
  ·exact Int.tmod_neg _ _
 have hya:y.natAbs=n:=by omega
 rw [hy,hya]
 rcases hm with rfl | rfl
 ·have h:((m:Int).tmod n)=((m % n:Nat):Int):=(Int.ofNat_tmod m n).symm
  rw [h,decide_eq_false (Int.not_lt.2 (Int.natCast_nonneg _)),decide_eq_false (show ¬ (m:Int)<0 by omega)];rfl
 ·have h:((-(m:Int)).tmod n) = -((m % n:Nat):Int):=by rw [Int.neg_tmod,←Int.ofNat_tmod]
  rw [h,Int.natAbs_neg,Int.natAbs_natCast]
  rcases Nat.eq_zero_or_pos (m % n) with h0 | h0
  ·rw [h0];simp
  ·have:m≠0:=by rintro rfl;simp at h0
   rw [decide_eq_true (show -((m % n:Nat):Int)<0 by omega),decide_eq_true (show -(m:Int)<0 by omega),decide_eq_true (show m % n≠0 by omega)];rfl
theorem Vu (i k:Nat) (qs:List Nat):(List.replicate (i+1) 0++qs).set i k=List.replicate i 0++(k::qs):=by
 rw [List.replicate_succ',List.append_assoc]
 rw [List.set_append_right _ _ (by simp)]
 simp
theorem Row.d16 {w:World} {v:Value} {ds:List Nat} (h:Row w v (i64s ds)) (h0:ds≠[]) (hd:∀ x∈ds,x<65536):D16 w v ds:=by
 obtain ⟨A,c,rfl,h1,h2,h3⟩:=h
 rw [J4] at h1 ⊢
 rcases h3 with ⟨h4,_⟩ | ⟨b,o,rfl,h4⟩
 ·have:=congrArg List.length h4;rw [J4] at this;exact absurd (List.length_eq_zero_iff.1 this) h0
 ·exact ⟨.inr ⟨b,o,c,rfl,h1,h2,fun i hi=>(h4 i (by rw [J4];exact hi)).trans (Np ds i hi)⟩,hd⟩
end
section
open Go.RowKit Go.Maps
open Rat
theorem D16.len_le {a b:Nat} (h:a<65536*b) {k:Nat} (hb:(dig 65536 b).length≤k):(dig 65536 a).length≤k+1 :=
 (Bz 65536 (by omega) a _).2 (by have:=(Bz 65536 (by omega) b k).1 hb;rw [Nat.pow_succ];omega)
theorem OwnI.lt {w:World} {g:Nat} {xs:List Nat} (h:OwnI w g xs):g<w.heap.size:=by obtain ⟨T,h⟩:=h;exact Dq h
theorem W7 (w:World) (v1 v2:Value) (xs ys:List Nat) (hx:D16 w v1 xs) (hy:D16 w v2 ys) (lx:xs.length≤1099511627776) (ly:ys.length≤xs.length) (hge:val 65536 ys≤val 65536 xs) (q:Nat) (hq:q<w.heap.size) :
  Calls Tryz.prog 175 #[v1,v2] w fun e w'=>∃ v',e=.returned v'∧D16 w' v' (dig 65536 (val 65536 xs-val 65536 ys))∧v'.ownBlock≠some q∧w.grownBy w' none :=
 (Ia w v1 v2 xs ys hx hy lx ly hge).mono fun e w' ⟨v,e1,e2,e3,e4⟩=>⟨v,e1,e2,fun h=>by have:=e3 _ h;omega,e4⟩
theorem Ip {w:World} {p q:Nat} (hpq:p≠q) {a0 b0:Bool} {A0 B0:Option Addr} {n0 c0 m0 k0:Nat} (hp:Blk w p #[.bool a0,.slice A0 n0 c0]) (hq:Blk w q #[.bool b0,.slice B0 m0 k0]) (a b:Bool) (A B:Option Addr) (n c m k:Nat) :
  Blk ((((w.setCell ⟨p,0,none⟩ (.bool a)).setCell ⟨p,1,none⟩ (.slice A n c)).setCell ⟨q,0,none⟩ (.bool b)).setCell ⟨q,1,none⟩ (.slice B m k)) p #[.bool a,.slice A n c]∧
  Blk ((((w.setCell ⟨p,0,none⟩ (.bool a)).setCell ⟨p,1,none⟩ (.slice A n c)).setCell ⟨q,0,none⟩ (.bool b)).setCell ⟨q,1,none⟩ (.slice B m k)) q #[.bool b,.slice B m k]∧
  (∀ v ds,D16 w v ds→D16 ((((w.setCell ⟨p,0,none⟩ (.bool a)).setCell ⟨p,1,none⟩ (.slice A n c)).setCell ⟨q,0,none⟩ (.bool b)).setCell ⟨q,1,none⟩ (.slice B m k)) v ds)∧
  ∀ w0:World,w0.grownBy w none→w0.heap.size≤p→w0.heap.size≤q→w0.grownBy ((((w.setCell ⟨p,0,none⟩ (.bool a)).setCell ⟨p,1,none⟩ (.slice A n c)).setCell ⟨q,0,none⟩ (.bool b)).setCell ⟨q,1,none⟩ (.slice B m k)) none:=by
 have g1:w.grownBy ((w.setCell ⟨p,0,none⟩ (.bool a)).setCell ⟨p,1,none⟩ (.slice A n c)) (some p):=Ae (Au _ _ _ _) (Au _ _ _ _)
 have hp1:=(hp.set 0 (.bool a)).set 1 (.slice A n c)
 have hq1:=hq.other g1 (fun e=>hpq e.symm)
 have hn:∀ v ds,D16 w v ds→D16 ((w.setCell ⟨p,0,none⟩ (.bool a)).setCell ⟨p,1,none⟩ (.slice A n c)) v ds:=fun v ds h=>h.keep hp (by simp) g1
 generalize (w.setCell ⟨p,0,none⟩ (.bool a)).setCell ⟨p,1,none⟩ (.slice A n c)=w1 at *
 have g2:w1.grownBy ((w1.setCell ⟨q,0,none⟩ (.bool b)).setCell ⟨q,1,none⟩ (.slice B m k)) (some q):=Ae (Au _ _ _ _) (Au _ _ _ _)
 exact ⟨hp1.other g2 hpq,(hq1.set 0 (.bool b)).set 1 (.slice B m k),fun v ds h=>(hn v ds h).keep hq1 (by simp) g2,fun w0 h h1 h2=>Aw (Aw h g1 h1) g2 h2⟩
set_option maxRecDepth 100000 in
theorem El (w:World) (v1 v2:Value) (x y:Int) (hx:NZ w v1 x) (hy:NZ w v2 y) (h0:y≠0) (lx:(d16 x).length≤1099511627776) (ly:(d16 y).length≤1099511627775) :
  Calls Tryz.prog 106 #[v1,v2] w fun e w'=>∃ q r,e=.returned (.tuple #[q,r])∧NZ w' q (x.tdiv y)∧NZ w' r (x.tmod y)∧w.grownBy w' none:=by
 obtain ⟨u1,rfl,hx⟩:=hx
 obtain ⟨u2,rfl,hy⟩:=hy
 obtain ⟨A1,c1,rfl,_⟩:=hx.ctor
 obtain ⟨A2,c2,rfl,_⟩:=hy.ctor
 have HQ:=Ac (Vb x y)
 have HRM:=Ac (Vc x y)
 have HV:Hid (val 65536 (d16 x)=x.natAbs):=Ac (Ei x)
 have HB:Hid (0<y.natAbs):=Ac (by omega)
 have hy2:d16 y=dig 65536 y.natAbs:=rfl
 rw [hy2] at hy ly ⊢
 have hxb:=hx.2
 generalize d16 x=xs at *
 generalize decide (x<0)=n1 at *
 generalize decide (y<0)=n2 at *
 generalize x.natAbs=V at *
 generalize y.natAbs=B at *
 have HXB:=Ac hxb
 have HLY:=Ac ly
 clear hxb h0 hy2
 have gw:=Ae (Ae (Af w (.cells #[.bool n1,.slice A1 xs.length c1] 122) none) (Af _ (.cells #[.bool n2,.slice A2 (dig 65536 B).length c2] 122) none)) (Ae (Af _ (.cells #[.bool false,.slice none 0 0] 122) none) (Af _ (.cells #[.bool false,.slice none 0 0] 122) none))
 have hB1:=(Blk.new w #[.bool n1,.slice A1 xs.length c1] 122).more (Ae (Af _ (.cells #[.bool n2,.slice A2 (dig 65536 B).length c2] 122) none) (Ae (Af _ (.cells #[.bool false,.slice none 0 0] 122) none) (Af _ (.cells #[.bool false,.slice none 0 0] 122) none)))
 have hB2:=(Blk.new (w.alloc (.cells #[.bool n1,.slice A1 xs.length c1] 122)) #[.bool n2,.slice A2 (dig 65536 B).length c2] 122).more (Ae (Af _ (.cells #[.bool false,.slice none 0 0] 122) none) (Af _ (.cells #[.bool false,.slice none 0 0] 122) none))
 have hB3:=(Blk.new ((w.alloc (.cells #[.bool n1,.slice A1 xs.length c1] 122)).alloc (.cells #[.bool n2,.slice A2 (dig 65536 B).length c2] 122)) #[.bool false,.slice none 0 0] 122).more (Af _ (.cells #[.bool false,.slice none 0 0] 122) none)
 have hB4:=Blk.new (((w.alloc (.cells #[.bool n1,.slice A1 xs.length c1] 122)).alloc (.cells #[.bool n2,.slice A2 (dig 65536 B).length c2] 122)).alloc (.cells #[.bool false,.slice none 0 0] 122)) #[.bool false,.slice none 0 0] 122
 rw [World.size_alloc] at hB2 hB3 hB4
 rw [World.size_alloc] at hB3 hB4
 rw [World.size_alloc] at hB4
 have hsz:((((w.alloc (.cells #[.bool n1,.slice A1 xs.length c1] 122)).alloc (.cells #[.bool n2,.slice A2 (dig 65536 B).length c2] 122)).alloc (.cells #[.bool false,.slice none 0 0] 122)).alloc (.cells #[.bool false,.slice none 0 0] 122)).heap.size=w.heap.size+1+1+1+1:=by simp
 have HX:=Ac (hx.more gw)
 have HY:=Ac (hy.more gw)
 have HB1:=Ac hB1
 have HB2:=Ac hB2
 have HB3:=Ac hB3
 have HB4:=Ac hB4
 have HSZ:=Ac hsz
 have HGW:=Ac gw
 have hmk:=Sj (P:=Tryz.prog) 30 3 Tryz.underlying30 Cm xs.length (by omega) (xs.length:Int) rfl
 clear hx hy hB1 hB2 hB3 hB4 hsz gw
 go_enter Tryz.func106,Tryz.ntmps106
 go_wp2_with fail
 generalize (((w.alloc (.cells #[.bool n1,.slice A1 xs.length c1] 122)).alloc (.cells #[.bool n2,.slice A2 (dig 65536 B).length c2] 122)).alloc (.cells #[.bool false,.slice none 0 0] 122)).alloc (.cells #[.bool false,.slice none 0 0] 122)=wa at *
 generalize hs:w.heap.size=s at *
 have HS:=Ac hs
 clear hs
 obtain ⟨x0,x1,_⟩:=HB1.out.two
 have ga:=Af wa (.cells (i64s (List.replicate xs.length 0)).toArray 3) none
 have x0:=Aj ga x0 (by simp)
 have x1':=Aj ga x1 (by simp)
 have hw1:IntKind.i64.wrap ((xs.length:Int)-1)=(xs.length:Int)-1:=IntWalk.i64_in _ (by omega)
 have ho0:OwnI (wa.alloc (.cells (i64s (List.replicate xs.length 0)).toArray 3)) (s+1+1+1+1) (List.replicate xs.length 0):=⟨3,Gu _ HSZ.out.symm⟩
 go_wp2_with fail
 clear hmk hw1 x0 x1 x1'
 go_loopw [7,8] (fun rv iv wr=>∃ (m r:Nat) (qs:List Nat),m≤xs.length∧iv=.int .i64 ((m:Int)-1)∧Hid (DivSt xs B m r qs)∧Hid (D16 wr rv (dig 65536 r))∧Hid (rv.ownBlock≠some (s+1+1+1+1))∧wa.grownBy wr none∧Hid (OwnI wr (s+1+1+1+1) (List.replicate m 0++qs))) (fun _ iv _=>(intOf iv+1).toNat)
 case atStart=>exact ⟨xs.length,0,[],by omega,rfl,Ac (DivSt.start xs B),Ac (D16.nil _),Ac (by simp [Value.ownBlock]),ga,Ac (by rw [List.append_nil];exact ho0)⟩
 case round =>
  clear ga ho0
  obtain ⟨m,r,qs,hm,rfl,hds,hrv,hne,hg,how⟩:=hrel
  cases m with
  | succ i=>as_aux_lemma =>
    have hiv:((i+1:Nat):Int)-1=(i:Int):=by omega
    rw [hiv]
    have hlt:i<xs.length:=by omega
    obtain ⟨x0,x1,_⟩:=(HB1.out.more hg).two
    obtain ⟨y0,y1,_⟩:=(HB2.out.more hg).two
    obtain ⟨Ar,cr,rfl,hrl⟩:=id hrv.out.ctor
    obtain ⟨b1,o1,rfl,u1,lx1⟩:=(HX.out.more hg).at hlt
    have HDS:=hds
    have HOW:=how
    have HX16:=Ac lx1
    have HLT:=Ac hlt
    have HG:=Ac hg
    have hrB:r<B:=by rw [hds.out.1];exact Nat.mod_lt _ HB.out
    obtain ⟨T,hT⟩:∃ T,T=xs.getD i 0+65536*r:=⟨_,rfl⟩
    have HT:=Ac hT
    have hTB:T<65536*B:=by rw [hT];exact Pg lx1 hrB
    have HTB:=Ac hTB
    have hlr:(dig 65536 r).length≤1099511627776:=Nat.le_trans (J2 (Nat.le_of_lt hrB)) (Nat.le_trans HLY.out (by omega))
    have HLR:=Ac hlr
    have HXI:Hid (xs.getD i 0=xs.getD i 0):=Ac rfl
    generalize hxd:xs.getD i 0=xd at *
    have HXD:=Ac hxd
    have HRV:=hrv
    have e0:(0:Int)≤(i:Int):=by omega
    have e1:(i:Int)<(xs.length:Int):=by omega
    clear hds how hrv lx1 hlt hiv hrB hT hTB hxd hm hg
    go_wp2_with (at_builtin;refine Fq wr.heap.size rfl _ _ 30 3 (.int .i64 0) 1 8 rfl Tryz.underlying30 Cm rfl (by omega) (by omega) _ 1 [.int .i64 (xd:Int)] rfl (World.ownsRow_lit wr #[.int .i64 (xd:Int)] 1 (Nat.le_refl _) (by decide) rfl) Ar (dig 65536 r).length cr (i64s (dig 65536 r)) rfl (by simp [i64s]) ?c1 (by cases Ar;exact .inl rfl;exact .inr ⟨_,rfl⟩) (by simp [i64s,Value.oneCell']) (by omega) (by simp) ?_)
    case c1 =>
     intro hp
     obtain ⟨b,o,rfl,_,_⟩:=HRV.out.at hp
     refine ⟨b,o,rfl,fun j hj=>?_⟩
     obtain ⟨b',o',e,hc,_⟩:=HRV.out.at hj
     injection e with e
     injection e with e2 e3
     subst e2 e3
     rw [Np _ _ hj,←List.getD_eq_getElem?_getD]
     exact Aj (Af wr _ none) hc (by simp)
    intro v3 w3 hown3 hgo3 hat3
    have hgo:=Aw (Af wr (.cells #[.int .i64 (xd:Int)] 3) none) hgo3 (Nat.le_refl _)
    have hd3:D16 w3 v3 (xd::dig 65536 r):=(show Row w3 v3 (i64s (xd::dig 65536 r)) from E5 hown3).d16 (by simp) (fun z hz=>by
     rcases List.mem_cons.1 hz with rfl | hz
     ·exact HX16.out
     ·exact Ev 65536 (by omega) _ z hz)
    have hq4:=HOW.out.lt
    have hv3:v3.ownBlock≠some (s+1+1+1+1):=fun e=>by have:=D4 hown3 _ e;omega
    have hvt:val 65536 (xd::dig 65536 r)=T:=by rw [HT.out];simp only [val];rw [Ck 65536 (by omega)]
    have hTC:=Fu w3 v3 _ hd3
    rw [hvt] at hTC
    have HTC:=Ac hTC
    have HV3:=Ac hv3
    have HGO:=Ac hgo
    have HLB:Hid ((d16 (B:Int)).length≤1099511627776):=Ac (by unfold d16;rw [Int.natAbs_natCast];exact Nat.le_trans HLY.out (by omega))
    clear hown3 hgo3 hat3 hgo hd3 hv3 hvt hTC u1 x0 x1 y0 y1 e0 e1 hq4
    go_wp2_with fail
    refine HTC.out.mono ?_
    rintro e w4 ⟨v4,rfl,hd4,hv4,rfl⟩
    obtain ⟨A4,c4,rfl,_⟩:=id hd4.ctor
    obtain ⟨y0,y1,_⟩:=(HB2.out.more (Ae HG.out HGO.out)).two
    have HY3:=Ac (HY.out.more (Ae HG.out HGO.out))
    have HDG:=Ac (Qc w3 _ _ T B hd4 HY3.out HB.out HTB.out (Nat.le_trans HLY.out (by omega)))
    have HD4:=Ac hd4
    have HV4:Hid ((Value.slice A4 (dig 65536 T).length c4).ownBlock≠some (s+1+1+1+1)):=Ac (by rw [hv4];exact HV3.out)
    have hkk:T/B<65536:=Nat.div_lt_of_lt_mul (by have:=HTB.out;omega)
    obtain ⟨k,hk⟩:∃ k,T/B=k:=⟨_,rfl⟩
    have HST:Hid (DivSt xs B i (T % B) (k::qs)):=Ac (by have:=HDS.out.step HB.out HLT.out (by rw [HXD.out];exact HX16.out);rwa [HXD.out,←HT.out,hk] at this)
    rw [hk] at HDG hkk
    have HK:=Ac hk
    have HKK:=Ac hkk
    clear hd4 hv4 hk hkk
    generalize hnt:(dig 65536 T).length=nt at *
    have HNT:=Ac hnt
    clear hnt
    go_wp2_with fail
    refine HDG.out.mono ?_
    rintro e w5 ⟨rfl,hg5⟩
    have y1:=Aj hg5 y1 (by simp)
    have HG5:=Ac (Ae HGO.out hg5)
    have HD5:=Ac (HD4.out.more hg5)
    have HY5:=Ac (HY3.out.more hg5)
    clear y0 hg5
    by_cases hk0:0<k
    ·have t0:(0:Int)<(k:Int):=by omega
     have hfd:=Vn
     have HCW:=Ac (fun W (h:w5.grownBy W none)=>Aj h y1 (by simp))
     have HLK:Hid ((d16 (k:Int)).length≤1099511627776):=Ac (by unfold d16;rw [Int.natAbs_natCast];have:=(Bz 65536 (by omega) k 1).2 (by have:=HKK.out;omega);omega)
     have HLT2:Hid ((dig 65536 T).length≤1099511627776):=Ac (D16.len_le HTB.out HLY.out)
     have HBK:Hid (B*k≤T):=Ac (by rw [←HK.out];exact Nat.mul_div_le T B)
     have hk9:=HKK.out
     have HQL:Hid (s+1+1+1+1<w5.heap.size):=Ac (Nat.lt_of_lt_of_le HOW.out.lt HG5.out.size)
     go_wp2_with fail
     go_region_held3 (fun W=>W.cell? ⟨s+1,1,none⟩=some (.slice A2 (dig 65536 B).length c2)) ((refine HCW.out _ ?_;(focus ((repeat (first | assumption | exact Al _ _ | exact Ai _ _ | exact Af _ _ _ | refine Ae ?_ (Af _ _ _) | refine Ae ?_ (Ai _ _) | refine Ae ?_ (by assumption)));done)))) (first
      | (go_at_call 171;refine (F6 _ k (by omega)).mono ?_;rintro e w6 ⟨sv,rfl,hsv,hg6⟩)
      | (go_at_call 107;refine (Eg _ _ sv (B:Int) (k:Int) (Ut (HY5.out.more (by (focus ((repeat (first | assumption | exact Al _ _ | exact Ai _ _ | exact Af _ _ _ | refine Ae ?_ (Af _ _ _) | refine Ae ?_ (Ai _ _) | refine Ae ?_ (by assumption)));done))))) (hsv.more (by (focus ((repeat (first | assumption | exact Al _ _ | exact Ai _ _ | exact Af _ _ _ | refine Ae ?_ (Af _ _ _) | refine Ae ?_ (Ai _ _) | refine Ae ?_ (by assumption)));done)))) HLB.out HLK.out).mono ?_;rintro e w7 ⟨nv,rfl,⟨u,rfl,hu⟩,hg7⟩;rw [Vj] at hu;obtain ⟨A7,c7,rfl,_⟩:=id hu.ctor)
      | (go_at_call 175;refine (W7 _ _ _ (dig 65536 T) (dig 65536 (B*k)) (HD5.out.more (by (focus ((repeat (first | assumption | exact Al _ _ | exact Ai _ _ | exact Af _ _ _ | refine Ae ?_ (Af _ _ _) | refine Ae ?_ (Ai _ _) | refine Ae ?_ (by assumption)));done)))) (hu.more (by (focus ((repeat (first | assumption | exact Al _ _ | exact Ai _ _ | exact Af _ _ _ | refine Ae ?_ (Af _ _ _) | refine Ae ?_ (Ai _ _) | refine Ae ?_ (by assumption)));done)))) HLT2.out (J2 HBK.out) (by rw [Ck 65536 (by omega),Ck 65536 (by omega)];exact HBK.out) (s+1+1+1+1) (by exact Nat.lt_of_lt_of_le HQL.out (show World.grownBy w5 _ none by (focus ((repeat (first | assumption | exact Al _ _ | exact Ai _ _ | exact Af _ _ _ | refine Ae ?_ (Af _ _ _) | refine Ae ?_ (Ai _ _) | refine Ae ?_ (by assumption)));done))).size)).mono ?_;rintro e w8 ⟨v8,rfl,hd8,hf8,hg8⟩))
     all_goals
      have hd9:D16 w8 v8 (dig 65536 (T % B)):=by
       have h1:=Nat.div_add_mod T B
       rw [HK.out] at h1
       rw [Ck 65536 (by omega),Ck 65536 (by omega),show T-B*k=T % B by omega] at hd8
       exact hd8
      have HD9:=Ac hd9
      have HF8:=Ac hf8
      clear hd8 hd9 hf8 hfd
      have hlt:=HLT.out
      have hgw:=Ae HG5.out (show w5.grownBy w8 none by (focus ((repeat (first | assumption | exact Al _ _ | exact Ai _ _ | exact Af _ _ _ | refine Ae ?_ (Af _ _ _) | refine Ae ?_ (Ai _ _) | refine Ae ?_ (by assumption)));done)))
      have hgo:=HOW.out.more hgw
      have z3:=hgo.cell i (by simp;omega)
      have f3:=hgo.free i
      have HOW4:=Ac hgo
      have HG4:=Ac (Ae HG.out hgw)
      have hw:=IntWalk.i64_in ((i:Int)-1) (by omega)
      have e0:(0:Int)≤(i:Int):=by omega
      have e1:(i:Int)<(xs.length:Int):=by omega
      clear hgo hgw
      go_wp2_with fail
      exact ⟨⟨i,T % B,k::qs,by omega,by go_num,HST,Ac (HD9.out.apart (Au _ _ _ _) HF8.out),Ac (HF8.out),Aw HG4.out (Au _ _ _ _) (by have:=HSZ.out;omega),Ac (by have:=HOW4.out.set i k _ rfl;rwa [Vu] at this)⟩,by simp [intOf]<;>omega⟩
    ·have t0:¬ (0:Int)<(k:Int):=by omega
     have hd9:D16 w5 (.slice A4 nt c4) (dig 65536 (T % B)):=by
      have h1:T<B:=by
       rcases Nat.lt_or_ge T B with h | h
       ·exact h
       ·have:=Nat.div_pos h HB.out;have:=HK.out;omega
      rw [Nat.mod_eq_of_lt h1]
      exact HD5.out
     have HD9:=Ac hd9
     clear hd9
     have hlt:=HLT.out
     have hgw:=HG5.out
     have hgo:=HOW.out.more hgw
     have z3:=hgo.cell i (by simp;omega)
     have f3:=hgo.free i
     have HOW4:=Ac hgo
     have HG4:=Ac (Ae HG.out hgw)
     have hw:=IntWalk.i64_in ((i:Int)-1) (by omega)
     have e0:(0:Int)≤(i:Int):=by omega
     have e1:(i:Int)<(xs.length:Int):=by omega
     clear hgo hgw
     go_wp2_with fail
     exact ⟨⟨i,T % B,k::qs,by omega,by go_num,HST,Ac (HD9.out.apart (Au _ _ _ _) HV4.out),Ac (HV4.out),Aw HG4.out (Au _ _ _ _) (by have:=HSZ.out;omega),Ac (by have:=HOW4.out.set i k _ rfl;rwa [Vu] at this)⟩,by simp [intOf]<;>omega⟩
  | zero=>as_aux_lemma =>
    obtain ⟨d1,d2,d3,d4⟩:=hds.out
    rw [List.drop_zero,HV.out] at d1 d4
    have hql:qs.length=xs.length:=by rw [d2];simp
    have hD:=how.out
    rw [show List.replicate 0 0++qs=qs from rfl] at hD
    have hD2:=hD.d16 d3 (by omega)
    rw [hql] at hD2
    have hTC:=Fu wr _ qs hD2
    rw [d4] at hTC
    have HTC:=Ac hTC
    obtain ⟨Ar,cr,rfl,hrl⟩:=id hrv.out.ctor
    obtain ⟨x0,x1,_⟩:=(HB1.out.more hg).two
    obtain ⟨y0,y1,_⟩:=(HB2.out.more hg).two
    have HZ3:=Ac (HB3.out.more hg)
    have HZ4:=Ac (HB4.out.more hg)
    have HG:=Ac (Ae HGW.out hg)
    have HRV:Hid (D16 wr (.slice Ar (dig 65536 r).length cr) (dig 65536 (V % B))):=Ac (by rw [←d1];exact hrv.out)
    have HRL:Hid ((dig 65536 r).length=(dig 65536 (V % B)).length):=Ac (by rw [d1])
    have hiv:((0:Nat):Int)-1 = -1:=rfl
    rw [hiv]
    clear hds hrv hD hD2 hTC how hg hne d1 d2 d3 d4 hql hiv
    go_wp2_with fail
    refine HTC.out.mono ?_
    rintro e w4 ⟨v4,rfl,hd4,hv4,rfl⟩
    obtain ⟨A4,c4,rfl,_⟩:=id hd4.ctor
    have HD4:=Ac hd4
    clear hd4 hv4 HTC hrl
    obtain ⟨z0,z1,f0,f1⟩:=HZ3.out.two
    obtain ⟨u0,u1,f2,f3⟩:=HZ4.out.two
    generalize hL2:(dig 65536 r).length=L2 at *
    have HL2:=Ac hL2
    clear hL2
    generalize hL1:(dig 65536 (V/B)).length=L1 at *
    have HL1:=Ac hL1
    clear hL1
    cases n1 with
    | false =>
     have HSR:Hid (decide (x.tmod y<0)=false):=Ac (by rw [HRM.out.2];rfl)
     cases n2 with
     | false =>
      have HSQ:Hid (decide (x.tdiv y<0)=false):=Ac (by rw [HQ.out.2];rfl)
      as_aux_lemma =>
       obtain ⟨e1,e2,e3,e4⟩:=Ip (by omega) HZ3.out HZ4.out false false A4 Ar L1 c4 L2 cr
       obtain ⟨e5,e6,_⟩:=e1.two
       obtain ⟨e7,e8,_⟩:=e2.two
       have HE3:=Ac e3
       have HE4:=Ac (e4 w HG.out (by have:=HS.out;omega) (by have:=HS.out;omega))
       have HE:=Ac (And.intro e5 (And.intro e6 (And.intro e7 e8)))
       clear e1 e2 e3 e4 e5 e6 e7 e8
       go_wp2_with fail
       try simp only [Exit.inBlock,Exit.then]
       obtain ⟨e5,e6,e7,e8⟩:=HE.out
       clear x0 x1 y0 y1 z0 z1 f0 f1 u0 u1 f2 f3
       refine bodyPost_ret (v:=.tuple #[.agg #[.bool false,.slice A4 L1 c4],.agg #[.bool false,.slice Ar L2 cr]]) (by simp [results,Tryz.results106,go_sem,e5,e6,e7,e8]) rfl ⟨_,_,rfl,⟨_,by rw [HSQ.out],?_⟩,⟨_,by rw [HSR.out],?_⟩,HE4.out⟩
       ·rw [HQ.out.1];exact HE3.out _ _ HD4.out
       ·rw [HRM.out.1];exact HE3.out _ _ HRV.out
     | true =>
      have HSQ:Hid (decide (x.tdiv y<0)=decide (0<L1)):=Ac (by rw [HQ.out.2];rfl)
      as_aux_lemma =>
       obtain ⟨e1,e2,e3,e4⟩:=Ip (by omega) HZ3.out HZ4.out (decide (0<L1)) false A4 Ar L1 c4 L2 cr
       obtain ⟨e5,e6,_⟩:=e1.two
       obtain ⟨e7,e8,_⟩:=e2.two
       have HE3:=Ac e3
       have HE4:=Ac (e4 w HG.out (by have:=HS.out;omega) (by have:=HS.out;omega))
       have HE:=Ac (And.intro e5 (And.intro e6 (And.intro e7 e8)))
       clear e1 e2 e3 e4 e5 e6 e7 e8
       go_wp2_with fail
       try simp only [Exit.inBlock,Exit.then]
       obtain ⟨e5,e6,e7,e8⟩:=HE.out
       clear x0 x1 y0 y1 z0 z1 f0 f1 u0 u1 f2 f3
       refine bodyPost_ret (v:=.tuple #[.agg #[.bool (decide (0<L1)),.slice A4 L1 c4],.agg #[.bool false,.slice Ar L2 cr]]) (by simp [results,Tryz.results106,go_sem,e5,e6,e7,e8]) rfl ⟨_,_,rfl,⟨_,by rw [HSQ.out],?_⟩,⟨_,by rw [HSR.out],?_⟩,HE4.out⟩
       ·rw [HQ.out.1];exact HE3.out _ _ HD4.out
       ·rw [HRM.out.1];exact HE3.out _ _ HRV.out
    | true =>
     have HSR:Hid (decide (x.tmod y<0)=decide (0<L2)):=Ac (by rw [HRM.out.2,←HRL.out];rfl)
     cases n2 with
     | false =>
      have HSQ:Hid (decide (x.tdiv y<0)=decide (0<L1)):=Ac (by rw [HQ.out.2];rfl)
      as_aux_lemma =>
       obtain ⟨e1,e2,e3,e4⟩:=Ip (by omega) HZ3.out HZ4.out (decide (0<L1)) (decide (0<L2)) A4 Ar L1 c4 L2 cr
       obtain ⟨e5,e6,_⟩:=e1.two
       obtain ⟨e7,e8,_⟩:=e2.two
       have HE3:=Ac e3
       have HE4:=Ac (e4 w HG.out (by have:=HS.out;omega) (by have:=HS.out;omega))
       have HE:=Ac (And.intro e5 (And.intro e6 (And.intro e7 e8)))
       clear e1 e2 e3 e4 e5 e6 e7 e8
       go_wp2_with fail
       try simp only [Exit.inBlock,Exit.then]
       obtain ⟨e5,e6,e7,e8⟩:=HE.out
       clear x0 x1 y0 y1 z0 z1 f0 f1 u0 u1 f2 f3
       refine bodyPost_ret (v:=.tuple #[.agg #[.bool (decide (0<L1)),.slice A4 L1 c4],.agg #[.bool (decide (0<L2)),.slice Ar L2 cr]]) (by simp [results,Tryz.results106,go_sem,e5,e6,e7,e8]) rfl ⟨_,_,rfl,⟨_,by rw [HSQ.out],?_⟩,⟨_,by rw [HSR.out],?_⟩,HE4.out⟩
       ·rw [HQ.out.1];exact HE3.out _ _ HD4.out
       ·rw [HRM.out.1];exact HE3.out _ _ HRV.out
     | true =>
      have HSQ:Hid (decide (x.tdiv y<0)=false):=Ac (by rw [HQ.out.2];rfl)
      as_aux_lemma =>
       obtain ⟨e1,e2,e3,e4⟩:=Ip (by omega) HZ3.out HZ4.out false (decide (0<L2)) A4 Ar L1 c4 L2 cr
       obtain ⟨e5,e6,_⟩:=e1.two
       obtain ⟨e7,e8,_⟩:=e2.two
       have HE3:=Ac e3
       have HE4:=Ac (e4 w HG.out (by have:=HS.out;omega) (by have:=HS.out;omega))
       have HE:=Ac (And.intro e5 (And.intro e6 (And.intro e7 e8)))
       clear e1 e2 e3 e4 e5 e6 e7 e8
       go_wp2_with fail
       try simp only [Exit.inBlock,Exit.then]
       obtain ⟨e5,e6,e7,e8⟩:=HE.out
       clear x0 x1 y0 y1 z0 z1 f0 f1 u0 u1 f2 f3
       refine bodyPost_ret (v:=.tuple #[.agg #[.bool false,.slice A4 L1 c4],.agg #[.bool (decide (0<L2)),.slice Ar L2 cr]]) (by simp [results,Tryz.results106,go_sem,e5,e6,e7,e8]) rfl ⟨_,_,rfl,⟨_,by rw [HSQ.out],?_⟩,⟨_,by rw [HSR.out],?_⟩,HE4.out⟩
       ·rw [HQ.out.1];exact HE3.out _ _ HD4.out
       ·rw [HRM.out.1];exact HE3.out _ _ HRV.out
end
end Go.Proofs.YtmfmfpmkgmkgiaaGreatDoor
