/- RefR RefS RefT RefU ModE ModF. -/
import Derived.Test.YtckbiimikeiejaaGreatDoorMap
import Derived.Test.YtckbiimikeiejaaGreatDoorMao
import Derived.Deep.DeepCutAuto
import Derived.Deep.RegionHeld3
import Derived.Deep.RegionLaw
import Derived.Deep.LoopGhost
import Derived.Deep.DrawnRows
import Derived.Test.YtckbiimikeiejaaGreatDoorMaj
set_option linter.unusedVariables false
set_option linter.unusedSimpArgs false
set_option maxHeartbeats 40000000
namespace Go.Proofs.YtckbiimikeiejaaGreatDoor
section
open Go.RowKit Go.Maps
open Rat
theorem Yl {a b:Nat}:cmpN a b<0↔a<b:=by unfold cmpN;split<;>(try split)<;>omega
theorem Yk {a b:Nat}:cmpN a b≤0↔a≤b:=by unfold cmpN;split<;>(try split)<;>omega
theorem Vj (a b:Nat):d16 ((a:Int)*(b:Int))=dig 65536 (a*b):=by unfold d16;rw [Int.natAbs_mul,Int.natAbs_natCast,Int.natAbs_natCast]
theorem Ut {w:World} {v:Value} {n:Nat} (h:D16 w v (dig 65536 n)):NZ w (.agg #[.bool false,v]) (n:Int):=⟨v,by rw [decide_eq_false (by omega)],h⟩
theorem Vn (b:Bool) (A:Option Addr) (n c:Nat) (W:World):(Instr.field 139 (.agg #[.bool b,.slice A n c]) 1).run Tryz.prog W=.ok (.slice A n c) W:=by kernel_rfl
set_option maxRecDepth 100000 in
theorem Qc (w:World) (v1 v2:Value) (R B:Nat) (hx:D16 w v1 (dig 65536 R)) (hy:D16 w v2 (dig 65536 B)) (hB:0<B) (hR:R<65536*B) (lb:(dig 65536 B).length≤1099511627776) :
  Calls Tryz.prog 226 #[v1,v2] w fun e w'=>e=.returned (.int .i64 ((R/B:Nat):Int))∧w.grownBy w' none:=by
 obtain ⟨A1,c1,rfl,_⟩:=hx.ctor
 obtain ⟨A2,c2,rfl,_⟩:=hy.ctor
 obtain ⟨Q,hQ⟩:∃ Q,R/B=Q:=⟨_,rfl⟩
 rw [hQ]
 have HX:=Ac hx
 have HY:=Ac hy
 have HQ:=Ac hQ
 have HB:=Ac hB
 have HR:=Ac hR
 have HLB:=Ac lb
 clear hx hy hQ hB hR lb
 have HM:=Ac (Gw w _ _ R B HX.out HY.out)
 generalize (dig 65536 R).length=n1 at *
 generalize hn2:(dig 65536 B).length=n2 at *
 have HN2:=Ac hn2
 clear hn2
 go_enter Tryz.func226,Tryz.ntmps226
 go_wp2_with fail
 refine HM.out.mono ?_
 rintro e w1 ⟨rfl,hg1⟩
 by_cases hlt:R<B
 ·have t:cmpN R B<0:=Yl.2 hlt
  have H0:Hid (Q=0):=Ac (by rw [←HQ.out];exact Nat.div_eq_of_lt hlt)
  clear hlt
  go_wp2_with fail
  go_ret
  exact ⟨by rw [H0.out];rfl,hg1⟩
 ·have t:¬ cmpN R B<0:=fun h=>hlt (Yl.1 h)
  have HGE:=Ac (Nat.le_of_not_lt hlt)
  clear hlt
  go_wp2_with fail
  clear t
  go_loopw [5,6] (fun lv hv wr=>∃ l h:Nat,l≤h∧h≤65535∧lv=.int .i64 l∧hv=.int .i64 h∧Hid (l*B≤R∧R<(h+1)*B)∧w1.grownBy wr none) (fun lv hv _=>(intOf hv-intOf lv).toNat)
  case atStart=>exact ⟨0,65535,by omega,by omega,rfl,rfl,Ac ⟨by omega,HR.out⟩,Al _ _⟩
  case round =>
   obtain ⟨l,h,hlh,h5,rfl,rfl,hin,hg⟩:=hrel
   by_cases hlt:l<h
   ·as_aux_lemma =>
     obtain ⟨q,hq⟩:∃ q:Nat,q=(l+h+1)/2:=⟨_,rfl⟩
     have e1:((l:Int)+(h:Int)+1).tdiv 2=(q:Int):=by rw [Int.tdiv_eq_ediv_of_nonneg (by omega),hq];omega
     have e2:IntKind.i64.wrap ((l:Int)+(h:Int))=(l:Int)+(h:Int):=IntWalk.i64_in _ (by omega)
     have e3:IntKind.i64.wrap ((l:Int)+(h:Int)+1)=(l:Int)+(h:Int)+1:=IntWalk.i64_in _ (by omega)
     have e4:IntKind.i64.wrap (q:Int)=(q:Int):=IntWalk.i64_in _ (by omega)
     have hq1:l<q∧q≤h:=by omega
     have HQ1:=Ac hq1
     have H5:=Ac h5
     have HLH:=Ac hlh
     clear hq hlh
     go_wp2_with fail
     clear e1 e2 e3 e4
     refine (F6 wr q (by omega)).mono ?_
     rintro e w2 ⟨sv,rfl,hsv,hg2⟩
     have HSV:=Ac hsv
     have hgx:=Ae hg1 (Ae hg hg2)
     have HLQ:Hid ((d16 (q:Int)).length≤1099511627776):=Ac (by unfold d16;rw [Int.natAbs_natCast];have:=(Bz 65536 (by omega) q 1).2 (by omega);omega)
     have HT:=Ac (Eg w2 _ sv (B:Int) (q:Int) (Ut (HY.out.more hgx)) hsv (by unfold d16;rw [Int.natAbs_natCast,HN2.out];exact HLB.out) HLQ.out)
     have HG2:=Ac (Ae hg hg2)
     clear hsv hg hg2
     go_wp2_with fail
     refine HT.out.mono ?_
     rintro e w3 ⟨nv,rfl,⟨u,rfl,hu⟩,hg3⟩
     rw [Vj] at hu
     obtain ⟨A3,c3,rfl,_⟩:=hu.ctor
     have HMG:=Ac (Gw w3 _ _ (B*q) R hu (HX.out.more (Ae hgx hg3)))
     have HG3:=Ac (Ae HG2.out hg3)
     clear hu hg3 hgx HT
     generalize (dig 65536 (B*q)).length=n3 at *
     have hfd:=Vn (decide ((B:Int)*(q:Int)<0)) A3 n3 c3
     go_wp2_with fail
     clear hfd
     refine HMG.out.mono ?_
     rintro e w4 ⟨rfl,hg4⟩
     obtain ⟨i1,i2⟩:=hin.out
     by_cases hle:B*q≤R
     ·have t:cmpN (B*q) R≤0:=Yk.2 hle
      have HIN:Hid (q*B≤R∧R<(h+1)*B):=Ac ⟨by rw [Nat.mul_comm];exact hle,i2⟩
      have hq1:=HQ1.out
      clear hle i1 i2 hin
      go_wp2_with fail
      have h5:=H5.out
      exact ⟨⟨q,h,by omega,by omega,rfl,rfl,HIN,Ae HG3.out hg4⟩,by simp [intOf];omega⟩
     ·have t:¬ cmpN (B*q) R≤0:=fun e=>hle (Yk.1 e)
      have HIN:Hid (l*B≤R∧R<(q-1+1)*B):=Ac ⟨i1,by rw [Nat.sub_add_cancel (by have:=HQ1.out;omega),Nat.mul_comm];omega⟩
      have hq1:=HQ1.out
      clear hle i1 i2 hin
      go_wp2_with fail
      have h5:=H5.out
      exact ⟨⟨l,q-1,by omega,by omega,rfl,by go_num,HIN,Ae HG3.out hg4⟩,by simp [intOf];omega⟩
   ·as_aux_lemma =>
     obtain rfl:l=h:=by omega
     have H0:Hid (Q=l):=Ac (by rw [←HQ.out];obtain ⟨i1,i2⟩:=hin.out;exact Nat.div_eq_of_lt_le i1 (by simpa using i2))
     go_wp2_with fail
     go_ret
     exact ⟨by rw [H0.out];rfl,Ae hg1 hg⟩
end
section
open Go.RowKit Go.Maps
open Rat
theorem J2 {a b:Nat} (h:a≤b):(dig 65536 a).length≤(dig 65536 b).length :=
 (Bz 65536 (by omega) a _).2 (Nat.lt_of_le_of_lt h ((Bz 65536 (by omega) b _).1 (Nat.le_refl _)))
theorem J3 {n:Nat}:0<(dig 65536 n).length↔n≠0:=by
 have:=Fa 65536 (by omega) n;omega
def DivSt (xs:List Nat) (B m r:Nat) (qs:List Nat):Prop:=r=val 65536 (xs.drop m) % B∧qs.length=xs.length-m∧(∀ q∈qs,q<65536)∧val 65536 qs=val 65536 (xs.drop m)/B
theorem DivSt.start (xs:List Nat) (B:Nat):DivSt xs B xs.length 0 []:=by
 refine ⟨?_,by simp,by simp,?_⟩<;>rw [List.drop_length]<;>simp [val]
theorem Yq (x r B V:Nat) (hB:0<B) (hr:r=V % B):(x+65536*r) % B=(x+65536*V) % B∧(x+65536*r)/B+65536*(V/B)=(x+65536*V)/B:=by
 have h:=Nat.div_add_mod V B
 have e:x+65536*V=(x+65536*r)+B*(65536*(V/B)):=by
  have h2:65536*V=65536*(B*(V/B))+65536*(V % B):=by rw [←Nat.mul_add,h]
  rw [h2,hr,Nat.mul_left_comm];omega
 rw [e,Nat.add_mul_mod_self_left,Nat.add_mul_div_left _ _ hB]
 exact ⟨rfl,rfl⟩
theorem Pg {x r B:Nat} (hx:x<65536) (hr:r<B):x+65536*r<65536*B:=by omega
theorem DivSt.step {xs:List Nat} {B i r:Nat} {qs:List Nat} (h:DivSt xs B (i+1) r qs) (hB:0<B) (hi:i<xs.length) (hx:xs.getD i 0<65536):DivSt xs B i ((xs.getD i 0+65536*r) % B) ((xs.getD i 0+65536*r)/B::qs):=by
 obtain ⟨h1,h2,h3,h4⟩:=h
 have hd:xs.drop i=xs.getD i 0::xs.drop (i+1):=by rw [List.drop_eq_getElem_cons hi,List.getD_eq_getElem?_getD,List.getElem?_eq_getElem hi];rfl
 have hr:r<B:=by rw [h1];exact Nat.mod_lt _ hB
 obtain ⟨e1,e2⟩:=Yq (xs.getD i 0) r B (val 65536 (xs.drop (i+1))) hB h1
 refine ⟨by rw [hd];exact e1,by rw [List.length_cons,h2];omega,fun q hq=>?_,by rw [hd];simp only [val];rw [h4];exact e2⟩
 rcases List.mem_cons.1 hq with rfl | hq
 ·exact Nat.div_lt_of_lt_mul (by have:=Pg hx hr;omega)
 ·exact h3 q hq
theorem Ga (x:Int):∃ m:Nat,x=(m:Int)∨x = -(m:Int):=⟨x.natAbs,by omega⟩
theorem Vb (x y:Int):d16 (x.tdiv y)=dig 65536 (x.natAbs/y.natAbs)∧decide (x.tdiv y<0)=((decide (x<0) != decide (y<0))&&decide (0<(dig 65536 (x.natAbs/y.natAbs)).length)):=by
 refine ⟨by unfold d16;rw [Int.natAbs_tdiv];rfl,?_⟩
 have e:decide (0<(dig 65536 (x.natAbs/y.natAbs)).length)=decide (x.natAbs/y.natAbs≠0):=by rw [decide_eq_decide];exact J3
 rw [e]
 obtain ⟨m,hm⟩:=Ga x
 obtain ⟨n,hn⟩:=Ga y
 rcases hm with rfl | rfl<;>rcases hn with rfl | rfl
 ·have h:((m:Int).tdiv n)=((m/n:Nat):Int):=(Int.ofNat_tdiv m n).symm
  rw [h,decide_eq_false (Int.not_lt.2 (Int.natCast_nonneg _)),decide_eq_false (show ¬ (m:Int)<0 by omega),decide_eq_false (show ¬ (n:Int)<0 by omega)];rfl
 ·have h:((m:Int).tdiv (-n)) = -((m/n:Nat):Int):=by rw [Int.tdiv_neg,←Int.ofNat_tdiv]
  rw [h,Int.natAbs_neg,Int.natAbs_natCast,Int.natAbs_natCast]
  rcases Nat.eq_zero_or_pos (m/n) with h0 | h0
  ·rw [h0];simp
  ·have:n≠0:=by rintro rfl;simp at h0
   rw [decide_eq_true (show -((m/n:Nat):Int)<0 by omega),decide_eq_false (show ¬ (m:Int)<0 by omega),decide_eq_true (show -(n:Int)<0 by omega),decide_eq_true (show m/n≠0 by omega)];rfl
 ·have h:((-(m:Int)).tdiv n) = -((m/n:Nat):Int):=by rw [Int.neg_tdiv,←Int.ofNat_tdiv]
  rw [h,Int.natAbs_neg,Int.natAbs_natCast,Int.natAbs_natCast]
  rcases Nat.eq_zero_or_pos (m/n) with h0 | h0
  ·rw [h0];simp
  ·have:m≠0:=by rintro rfl;simp at h0
   rw [decide_eq_true (show -((m/n:Nat):Int)<0 by omega),decide_eq_true (show -(m:Int)<0 by omega),decide_eq_false (show ¬ (n:Int)<0 by omega),decide_eq_true (show m/n≠0 by omega)];rfl
 ·have h:((-(m:Int)).tdiv (-n))=((m/n:Nat):Int):=by rw [Int.neg_tdiv,Int.tdiv_neg,Int.neg_neg,←Int.ofNat_tdiv]
  rw [h,Int.natAbs_neg,Int.natAbs_neg,Int.natAbs_natCast,Int.natAbs_natCast,decide_eq_false (Int.not_lt.2 (Int.natCast_nonneg (m/n)))]
  rcases Nat.eq_zero_or_pos (m/n) with h0 | h0
  ·rw [h0];simp
  ·have h1:m≠0:=by rintro rfl;simp at h0
   have h2:n≠0:=by rintro rfl;simp at h0
   rw [decide_eq_true (show -(m:Int)<0 by omega),decide_eq_true (show -(n:Int)<0 by omega)];rfl
theorem Vc (x y:Int):d16 (x.tmod y)=dig 65536 (x.natAbs % y.natAbs)∧decide (x.tmod y<0)=(decide (x<0)&&decide (0<(dig 65536 (x.natAbs % y.natAbs)).length)):=by
 refine ⟨by unfold d16;rw [Int.natAbs_tmod],?_⟩
 have e:decide (0<(dig 65536 (x.natAbs % y.natAbs)).length)=decide (x.natAbs % y.natAbs≠0):=by rw [decide_eq_decide];exact J3
 rw [e]
 obtain ⟨m,hm⟩:=Ga x
 obtain ⟨n,hn⟩:=Ga y
 have hy:∀ z:Int,z.tmod y=z.tmod n:=by
  intro z
  rcases hn with rfl | rfl
  ·rfl
  ·exact Int.tmod_neg _ _
 have hya:y.natAbs=n:=by omega
 rw [hy,hya]
 rcases hm with rfl | rfl
 ·have h:((m:Int).tmod n)=((m % n:Nat):Int):=(Int.ofNat_tmod m n).symm
  rw [h,decide_eq_false (Int.not_lt.2 (Int.natCast_nonneg _)),decide_eq_false (show ¬ (m:Int)<0 by omega)];rfl
 ·have h:((-(m:Int)).tmod n) = -((m % n:Nat):Int):=by rw [Int.neg_tmod,←Int.ofNat_tmod]
  rw [h,Int.natAbs_neg,Int.natAbs_natCast]
  rcases Nat.eq_zero_or_pos (m % n) with h0 | h0
  ·rw [h0];simp
  ·have:m≠0:=by rintro rfl;simp at h0
   rw [decide_eq_true (show -((m % n:Nat):Int)<0 by omega),decide_eq_true (show -(m:Int)<0 by omega),decide_eq_true (show m % n≠0 by omega)];rfl
theorem Vu (i k:Nat) (qs:List Nat):(List.replicate (i+1) 0++qs).set i k=List.replicate i 0++(k::qs):=by
 rw [List.replicate_succ',List.append_assoc]
 rw [List.set_append_right _ _ (by simp)]
 simp
theorem Row.d16 {w:World} {v:Value} {ds:List Nat} (h:Row w v (i64s ds)) (h0:ds≠[]) (hd:∀ x∈ds,x<65536):D16 w v ds:=by
 obtain ⟨A,c,rfl,h1,h2,h3⟩:=h
 rw [J4] at h1 ⊢
 rcases h3 with ⟨h4,_⟩ | ⟨b,o,rfl,h4⟩
 ·have:=congrArg List.length h4;rw [J4] at this;exact absurd (List.length_eq_zero_iff.1 this) h0
 ·exact ⟨.inr ⟨b,o,c,rfl,h1,h2,fun i hi=>(h4 i (by rw [J4];exact hi)).trans (Np ds i hi)⟩,hd⟩
end
section
open Go.RowKit Go.Maps
open Rat
theorem D16.len_le {a b:Nat} (h:a<65536*b) {k:Nat} (hb:(dig 65536 b).length≤k):(dig 65536 a).length≤k+1 :=
 (Bz 65536 (by omega) a _).2 (by have:=(Bz 65536 (by omega) b k).1 hb;rw [Nat.pow_succ];omega)
theorem OwnI.lt {w:World} {g:Nat} {xs:List Nat} (h:OwnI w g xs):g<w.heap.size:=by obtain ⟨T,h⟩:=h;exact Dq h
theorem W7 (w:World) (v1 v2:Value) (xs ys:List Nat) (hx:D16 w v1 xs) (hy:D16 w v2 ys) (lx:xs.length≤1099511627776) (ly:ys.length≤xs.length) (hge:val 65536 ys≤val 65536 xs) (q:Nat) (hq:q<w.heap.size) :
  Calls Tryz.prog 227 #[v1,v2] w fun e w'=>∃ v',e=.returned v'∧D16 w' v' (dig 65536 (val 65536 xs-val 65536 ys))∧v'.ownBlock≠some q∧w.grownBy w' none :=
 (Ia w v1 v2 xs ys hx hy lx ly hge).mono fun e w' ⟨v,e1,e2,e3,e4⟩=>⟨v,e1,e2,fun h=>by have:=e3 _ h;omega,e4⟩
theorem Ip {w:World} {p q:Nat} (hpq:p≠q) {a0 b0:Bool} {A0 B0:Option Addr} {n0 c0 m0 k0:Nat} (hp:Blk w p #[.bool a0,.slice A0 n0 c0]) (hq:Blk w q #[.bool b0,.slice B0 m0 k0]) (a b:Bool) (A B:Option Addr) (n c m k:Nat) :
  Blk ((((w.setCell ⟨p,0,none⟩ (.bool a)).setCell ⟨p,1,none⟩ (.slice A n c)).setCell ⟨q,0,none⟩ (.bool b)).setCell ⟨q,1,none⟩ (.slice B m k)) p #[.bool a,.slice A n c]∧
  Blk ((((w.setCell ⟨p,0,none⟩ (.bool a)).setCell ⟨p,1,none⟩ (.slice A n c)).setCell ⟨q,0,none⟩ (.bool b)).setCell ⟨q,1,none⟩ (.slice B m k)) q #[.bool b,.slice B m k]∧
  (∀ v ds,D16 w v ds→D16 ((((w.setCell ⟨p,0,none⟩ (.bool a)).setCell ⟨p,1,none⟩ (.slice A n c)).setCell ⟨q,0,none⟩ (.bool b)).setCell ⟨q,1,none⟩ (.slice B m k)) v ds)∧
  ∀ w0:World,w0.grownBy w none→w0.heap.size≤p→w0.heap.size≤q→w0.grownBy ((((w.setCell ⟨p,0,none⟩ (.bool a)).setCell ⟨p,1,none⟩ (.slice A n c)).setCell ⟨q,0,none⟩ (.bool b)).setCell ⟨q,1,none⟩ (.slice B m k)) none:=by
 have g1:w.grownBy ((w.setCell ⟨p,0,none⟩ (.bool a)).setCell ⟨p,1,none⟩ (.slice A n c)) (some p):=Ae (Au _ _ _ _) (Au _ _ _ _)
 have hp1:=(hp.set 0 (.bool a)).set 1 (.slice A n c)
 have hq1:=hq.other g1 (fun e=>hpq e.symm)
 have hn:∀ v ds,D16 w v ds→D16 ((w.setCell ⟨p,0,none⟩ (.bool a)).setCell ⟨p,1,none⟩ (.slice A n c)) v ds:=fun v ds h=>h.keep hp (by simp) g1
 generalize (w.setCell ⟨p,0,none⟩ (.bool a)).setCell ⟨p,1,none⟩ (.slice A n c)=w1 at *
 have g2:w1.grownBy ((w1.setCell ⟨q,0,none⟩ (.bool b)).setCell ⟨q,1,none⟩ (.slice B m k)) (some q):=Ae (Au _ _ _ _) (Au _ _ _ _)
 exact ⟨hp1.other g2 hpq,(hq1.set 0 (.bool b)).set 1 (.slice B m k),fun v ds h=>(hn v ds h).keep hq1 (by simp) g2,fun w0 h h1 h2=>Aw (Aw h g1 h1) g2 h2⟩
set_option maxRecDepth 100000 in
theorem El (w:World) (v1 v2:Value) (x y:Int) (hx:NZ w v1 x) (hy:NZ w v2 y) (h0:y≠0) (lx:(d16 x).length≤1099511627776) (ly:(d16 y).length≤1099511627775) :
  Calls Tryz.prog 145 #[v1,v2] w fun e w'=>∃ q r,e=.returned (.tuple #[q,r])∧NZ w' q (x.tdiv y)∧NZ w' r (x.tmod y)∧w.grownBy w' none:=by
 obtain ⟨u1,rfl,hx⟩:=hx
 obtain ⟨u2,rfl,hy⟩:=hy
 obtain ⟨A1,c1,rfl,_⟩:=hx.ctor
 obtain ⟨A2,c2,rfl,_⟩:=hy.ctor
 have HQ:=Ac (Vb x y)
 have HRM:=Ac (Vc x y)
 have HV:Hid (val 65536 (d16 x)=x.natAbs):=Ac (Ei x)
 have HB:Hid (0<y.natAbs):=Ac (by omega)
 have hy2:d16 y=dig 65536 y.natAbs:=rfl
 rw [hy2] at hy ly ⊢
 have hxb:=hx.2
 generalize d16 x=xs at *
 generalize decide (x<0)=n1 at *
 generalize decide (y<0)=n2 at *
 generalize x.natAbs=V at *
 generalize y.natAbs=B at *
 have HXB:=Ac hxb
 have HLY:=Ac ly
 clear hxb h0 hy2
 have gw:=Ae (Ae (Af w (.cells #[.bool n1,.slice A1 xs.length c1] 139) none) (Af _ (.cells #[.bool n2,.slice A2 (dig 65536 B).length c2] 139) none)) (Ae (Af _ (.cells #[.bool false,.slice none 0 0] 139) none) (Af _ (.cells #[.bool false,.slice none 0 0] 139) none))
 have hB1:=(Blk.new w #[.bool n1,.slice A1 xs.length c1] 139).more (Ae (Af _ (.cells #[.bool n2,.slice A2 (dig 65536 B).length c2] 139) none) (Ae (Af _ (.cells #[.bool false,.slice none 0 0] 139) none) (Af _ (.cells #[.bool false,.slice none 0 0] 139) none)))
 have hB2:=(Blk.new (w.alloc (.cells #[.bool n1,.slice A1 xs.length c1] 139)) #[.bool n2,.slice A2 (dig 65536 B).length c2] 139).more (Ae (Af _ (.cells #[.bool false,.slice none 0 0] 139) none) (Af _ (.cells #[.bool false,.slice none 0 0] 139) none))
 have hB3:=(Blk.new ((w.alloc (.cells #[.bool n1,.slice A1 xs.length c1] 139)).alloc (.cells #[.bool n2,.slice A2 (dig 65536 B).length c2] 139)) #[.bool false,.slice none 0 0] 139).more (Af _ (.cells #[.bool false,.slice none 0 0] 139) none)
 have hB4:=Blk.new (((w.alloc (.cells #[.bool n1,.slice A1 xs.length c1] 139)).alloc (.cells #[.bool n2,.slice A2 (dig 65536 B).length c2] 139)).alloc (.cells #[.bool false,.slice none 0 0] 139)) #[.bool false,.slice none 0 0] 139
 rw [World.size_alloc] at hB2 hB3 hB4
 rw [World.size_alloc] at hB3 hB4
 rw [World.size_alloc] at hB4
 have hsz:((((w.alloc (.cells #[.bool n1,.slice A1 xs.length c1] 139)).alloc (.cells #[.bool n2,.slice A2 (dig 65536 B).length c2] 139)).alloc (.cells #[.bool false,.slice none 0 0] 139)).alloc (.cells #[.bool false,.slice none 0 0] 139)).heap.size=w.heap.size+1+1+1+1:=by simp
 have HX:=Ac (hx.more gw)
 have HY:=Ac (hy.more gw)
 have HB1:=Ac hB1
 have HB2:=Ac hB2
 have HB3:=Ac hB3
 have HB4:=Ac hB4
 have HSZ:=Ac hsz
 have HGW:=Ac gw
 have hmk:=Sj (P:=Tryz.prog) 30 3 Tryz.underlying30 Cm xs.length (by omega) (xs.length:Int) rfl
 clear hx hy hB1 hB2 hB3 hB4 hsz gw
 go_enter Tryz.func145,Tryz.ntmps145
 go_wp2_with fail
 generalize (((w.alloc (.cells #[.bool n1,.slice A1 xs.length c1] 139)).alloc (.cells #[.bool n2,.slice A2 (dig 65536 B).length c2] 139)).alloc (.cells #[.bool false,.slice none 0 0] 139)).alloc (.cells #[.bool false,.slice none 0 0] 139)=wa at *
 generalize hs:w.heap.size=s at *
 have HS:=Ac hs
 clear hs
 obtain ⟨x0,x1,_⟩:=HB1.out.two
 have ga:=Af wa (.cells (i64s (List.replicate xs.length 0)).toArray 3) none
 have x0:=Aj ga x0 (by simp)
 have x1':=Aj ga x1 (by simp)
 have hw1:IntKind.i64.wrap ((xs.length:Int)-1)=(xs.length:Int)-1:=IntWalk.i64_in _ (by omega)
 have ho0:OwnI (wa.alloc (.cells (i64s (List.replicate xs.length 0)).toArray 3)) (s+1+1+1+1) (List.replicate xs.length 0):=⟨3,Gu _ HSZ.out.symm⟩
 go_wp2_with fail
 clear hmk hw1 x0 x1 x1'
 go_loopw [7,8] (fun rv iv wr=>∃ (m r:Nat) (qs:List Nat),m≤xs.length∧iv=.int .i64 ((m:Int)-1)∧Hid (DivSt xs B m r qs)∧Hid (D16 wr rv (dig 65536 r))∧Hid (rv.ownBlock≠some (s+1+1+1+1))∧wa.grownBy wr none∧Hid (OwnI wr (s+1+1+1+1) (List.replicate m 0++qs))) (fun _ iv _=>(intOf iv+1).toNat)
 case atStart=>exact ⟨xs.length,0,[],by omega,rfl,Ac (DivSt.start xs B),Ac (D16.nil _),Ac (by simp [Value.ownBlock]),ga,Ac (by rw [List.append_nil];exact ho0)⟩
 case round =>
  clear ga ho0
  obtain ⟨m,r,qs,hm,rfl,hds,hrv,hne,hg,how⟩:=hrel
  cases m with
  | succ i=>as_aux_lemma =>
    have hiv:((i+1:Nat):Int)-1=(i:Int):=by omega
    rw [hiv]
    have hlt:i<xs.length:=by omega
    obtain ⟨x0,x1,_⟩:=(HB1.out.more hg).two
    obtain ⟨y0,y1,_⟩:=(HB2.out.more hg).two
    obtain ⟨Ar,cr,rfl,hrl⟩:=id hrv.out.ctor
    obtain ⟨b1,o1,rfl,u1,lx1⟩:=(HX.out.more hg).at hlt
    have HDS:=hds
    have HOW:=how
    have HX16:=Ac lx1
    have HLT:=Ac hlt
    have HG:=Ac hg
    have hrB:r<B:=by rw [hds.out.1];exact Nat.mod_lt _ HB.out
    obtain ⟨T,hT⟩:∃ T,T=xs.getD i 0+65536*r:=⟨_,rfl⟩
    have HT:=Ac hT
    have hTB:T<65536*B:=by rw [hT];exact Pg lx1 hrB
    have HTB:=Ac hTB
    have hlr:(dig 65536 r).length≤1099511627776:=Nat.le_trans (J2 (Nat.le_of_lt hrB)) (Nat.le_trans HLY.out (by omega))
    have HLR:=Ac hlr
    have HXI:Hid (xs.getD i 0=xs.getD i 0):=Ac rfl
    generalize hxd:xs.getD i 0=xd at *
    have HXD:=Ac hxd
    have HRV:=hrv
    have e0:(0:Int)≤(i:Int):=by omega
    have e1:(i:Int)<(xs.length:Int):=by omega
    clear hds how hrv lx1 hlt hiv hrB hT hTB hxd hm hg
    go_wp2_with (at_builtin;refine Fq wr.heap.size rfl _ _ 30 3 (.int .i64 0) 1 8 rfl Tryz.underlying30 Cm rfl (by omega) (by omega) _ 1 [.int .i64 (xd:Int)] rfl (World.ownsRow_lit wr #[.int .i64 (xd:Int)] 1 (Nat.le_refl _) (by decide) rfl) Ar (dig 65536 r).length cr (i64s (dig 65536 r)) rfl (by simp [i64s]) ?c1 (by cases Ar;exact .inl rfl;exact .inr ⟨_,rfl⟩) (by simp [i64s,Value.oneCell']) (by omega) (by simp) ?_)
    case c1 =>
     intro hp
     obtain ⟨b,o,rfl,_,_⟩:=HRV.out.at hp
     refine ⟨b,o,rfl,fun j hj=>?_⟩
     obtain ⟨b',o',e,hc,_⟩:=HRV.out.at hj
     injection e with e
     injection e with e2 e3
     subst e2 e3
     rw [Np _ _ hj,←List.getD_eq_getElem?_getD]
     exact Aj (Af wr _ none) hc (by simp)
    intro v3 w3 hown3 hgo3 hat3
    have hgo:=Aw (Af wr (.cells #[.int .i64 (xd:Int)] 3) none) hgo3 (Nat.le_refl _)
    have hd3:D16 w3 v3 (xd::dig 65536 r):=(show Row w3 v3 (i64s (xd::dig 65536 r)) from E5 hown3).d16 (by simp) (fun z hz=>by
     rcases List.mem_cons.1 hz with rfl | hz
     ·exact HX16.out
     ·exact Ev 65536 (by omega) _ z hz)
    have hq4:=HOW.out.lt
    have hv3:v3.ownBlock≠some (s+1+1+1+1):=fun e=>by have:=D4 hown3 _ e;omega
    have hvt:val 65536 (xd::dig 65536 r)=T:=by rw [HT.out];simp only [val];rw [Ck 65536 (by omega)]
    have hTC:=Fu w3 v3 _ hd3
    rw [hvt] at hTC
    have HTC:=Ac hTC
    have HV3:=Ac hv3
    have HGO:=Ac hgo
    have HLB:Hid ((d16 (B:Int)).length≤1099511627776):=Ac (by unfold d16;rw [Int.natAbs_natCast];exact Nat.le_trans HLY.out (by omega))
    clear hown3 hgo3 hat3 hgo hd3 hv3 hvt hTC u1 x0 x1 y0 y1 e0 e1 hq4
    go_wp2_with fail
    refine HTC.out.mono ?_
    rintro e w4 ⟨v4,rfl,hd4,hv4,rfl⟩
    obtain ⟨A4,c4,rfl,_⟩:=id hd4.ctor
    obtain ⟨y0,y1,_⟩:=(HB2.out.more (Ae HG.out HGO.out)).two
    have HY3:=Ac (HY.out.more (Ae HG.out HGO.out))
    have HDG:=Ac (Qc w3 _ _ T B hd4 HY3.out HB.out HTB.out (Nat.le_trans HLY.out (by omega)))
    have HD4:=Ac hd4
    have HV4:Hid ((Value.slice A4 (dig 65536 T).length c4).ownBlock≠some (s+1+1+1+1)):=Ac (by rw [hv4];exact HV3.out)
    have hkk:T/B<65536:=Nat.div_lt_of_lt_mul (by have:=HTB.out;omega)
    obtain ⟨k,hk⟩:∃ k,T/B=k:=⟨_,rfl⟩
    have HST:Hid (DivSt xs B i (T % B) (k::qs)):=Ac (by have:=HDS.out.step HB.out HLT.out (by rw [HXD.out];exact HX16.out);rwa [HXD.out,←HT.out,hk] at this)
    rw [hk] at HDG hkk
    have HK:=Ac hk
    have HKK:=Ac hkk
    clear hd4 hv4 hk hkk
    generalize hnt:(dig 65536 T).length=nt at *
    have HNT:=Ac hnt
    clear hnt
    go_wp2_with fail
    refine HDG.out.mono ?_
    rintro e w5 ⟨rfl,hg5⟩
    have y1:=Aj hg5 y1 (by simp)
    have HG5:=Ac (Ae HGO.out hg5)
    have HD5:=Ac (HD4.out.more hg5)
    have HY5:=Ac (HY3.out.more hg5)
    clear y0 hg5
    by_cases hk0:0<k
    ·have t0:(0:Int)<(k:Int):=by omega
     have hfd:=Vn
     have HCW:=Ac (fun W (h:w5.grownBy W none)=>Aj h y1 (by simp))
     have HLK:Hid ((d16 (k:Int)).length≤1099511627776):=Ac (by unfold d16;rw [Int.natAbs_natCast];have:=(Bz 65536 (by omega) k 1).2 (by have:=HKK.out;omega);omega)
     have HLT2:Hid ((dig 65536 T).length≤1099511627776):=Ac (D16.len_le HTB.out HLY.out)
     have HBK:Hid (B*k≤T):=Ac (by rw [←HK.out];exact Nat.mul_div_le T B)
     have hk9:=HKK.out
     have HQL:Hid (s+1+1+1+1<w5.heap.size):=Ac (Nat.lt_of_lt_of_le HOW.out.lt HG5.out.size)
     go_wp2_with fail
     go_region_held3 (fun W=>W.cell? ⟨s+1,1,none⟩=some (.slice A2 (dig 65536 B).length c2)) ((refine HCW.out _ ?_;(focus ((repeat (first | assumption | exact Al _ _ | exact Ai _ _ | exact Af _ _ _ | refine Ae ?_ (Af _ _ _) | refine Ae ?_ (Ai _ _) | refine Ae ?_ (by assumption)));done)))) (first
      | (go_at_call 192;refine (F6 _ k (by omega)).mono ?_;rintro e w6 ⟨sv,rfl,hsv,hg6⟩)
      | (go_at_call 146;refine (Eg _ _ sv (B:Int) (k:Int) (Ut (HY5.out.more (by (focus ((repeat (first | assumption | exact Al _ _ | exact Ai _ _ | exact Af _ _ _ | refine Ae ?_ (Af _ _ _) | refine Ae ?_ (Ai _ _) | refine Ae ?_ (by assumption)));done))))) (hsv.more (by (focus ((repeat (first | assumption | exact Al _ _ | exact Ai _ _ | exact Af _ _ _ | refine Ae ?_ (Af _ _ _) | refine Ae ?_ (Ai _ _) | refine Ae ?_ (by assumption)));done)))) HLB.out HLK.out).mono ?_;rintro e w7 ⟨nv,rfl,⟨u,rfl,hu⟩,hg7⟩;rw [Vj] at hu;obtain ⟨A7,c7,rfl,_⟩:=id hu.ctor)
      | (go_at_call 227;refine (W7 _ _ _ (dig 65536 T) (dig 65536 (B*k)) (HD5.out.more (by (focus ((repeat (first | assumption | exact Al _ _ | exact Ai _ _ | exact Af _ _ _ | refine Ae ?_ (Af _ _ _) | refine Ae ?_ (Ai _ _) | refine Ae ?_ (by assumption)));done)))) (hu.more (by (focus ((repeat (first | assumption | exact Al _ _ | exact Ai _ _ | exact Af _ _ _ | refine Ae ?_ (Af _ _ _) | refine Ae ?_ (Ai _ _) | refine Ae ?_ (by assumption)));done)))) HLT2.out (J2 HBK.out) (by rw [Ck 65536 (by omega),Ck 65536 (by omega)];exact HBK.out) (s+1+1+1+1) (by exact Nat.lt_of_lt_of_le HQL.out (show World.grownBy w5 _ none by (focus ((repeat (first | assumption | exact Al _ _ | exact Ai _ _ | exact Af _ _ _ | refine Ae ?_ (Af _ _ _) | refine Ae ?_ (Ai _ _) | refine Ae ?_ (by assumption)));done))).size)).mono ?_;rintro e w8 ⟨v8,rfl,hd8,hf8,hg8⟩))
     all_goals
      have hd9:D16 w8 v8 (dig 65536 (T % B)):=by
       have h1:=Nat.div_add_mod T B
       rw [HK.out] at h1
       rw [Ck 65536 (by omega),Ck 65536 (by omega),show T-B*k=T % B by omega] at hd8
       exact hd8
      have HD9:=Ac hd9
      have HF8:=Ac hf8
      clear hd8 hd9 hf8 hfd
      have hlt:=HLT.out
      have hgw:=Ae HG5.out (show w5.grownBy w8 none by (focus ((repeat (first | assumption | exact Al _ _ | exact Ai _ _ | exact Af _ _ _ | refine Ae ?_ (Af _ _ _) | refine Ae ?_ (Ai _ _) | refine Ae ?_ (by assumption)));done)))
      have hgo:=HOW.out.more hgw
      have z3:=hgo.cell i (by simp;omega)
      have f3:=hgo.free i
      have HOW4:=Ac hgo
      have HG4:=Ac (Ae HG.out hgw)
      have hw:=IntWalk.i64_in ((i:Int)-1) (by omega)
      have e0:(0:Int)≤(i:Int):=by omega
      have e1:(i:Int)<(xs.length:Int):=by omega
      clear hgo hgw
      go_wp2_with fail
      exact ⟨⟨i,T % B,k::qs,by omega,by go_num,HST,Ac (HD9.out.apart (Au _ _ _ _) HF8.out),Ac (HF8.out),Aw HG4.out (Au _ _ _ _) (by have:=HSZ.out;omega),Ac (by have:=HOW4.out.set i k _ rfl;rwa [Vu] at this)⟩,by simp [intOf]<;>omega⟩
    ·have t0:¬ (0:Int)<(k:Int):=by omega
     have hd9:D16 w5 (.slice A4 nt c4) (dig 65536 (T % B)):=by
      have h1:T<B:=by
       rcases Nat.lt_or_ge T B with h | h
       ·exact h
       ·have:=Nat.div_pos h HB.out;have:=HK.out;omega
      rw [Nat.mod_eq_of_lt h1]
      exact HD5.out
     have HD9:=Ac hd9
     clear hd9
     have hlt:=HLT.out
     have hgw:=HG5.out
     have hgo:=HOW.out.more hgw
     have z3:=hgo.cell i (by simp;omega)
     have f3:=hgo.free i
     have HOW4:=Ac hgo
     have HG4:=Ac (Ae HG.out hgw)
     have hw:=IntWalk.i64_in ((i:Int)-1) (by omega)
     have e0:(0:Int)≤(i:Int):=by omega
     have e1:(i:Int)<(xs.length:Int):=by omega
     clear hgo hgw
     go_wp2_with fail
     exact ⟨⟨i,T % B,k::qs,by omega,by go_num,HST,Ac (HD9.out.apart (Au _ _ _ _) HV4.out),Ac (HV4.out),Aw HG4.out (Au _ _ _ _) (by have:=HSZ.out;omega),Ac (by have:=HOW4.out.set i k _ rfl;rwa [Vu] at this)⟩,by simp [intOf]<;>omega⟩
  | zero=>as_aux_lemma =>
    obtain ⟨d1,d2,d3,d4⟩:=hds.out
    rw [List.drop_zero,HV.out] at d1 d4
    have hql:qs.length=xs.length:=by rw [d2];simp
    have hD:=how.out
    rw [show List.replicate 0 0++qs=qs from rfl] at hD
    have hD2:=hD.d16 d3 (by omega)
    rw [hql] at hD2
    have hTC:=Fu wr _ qs hD2
    rw [d4] at hTC
    have HTC:=Ac hTC
    obtain ⟨Ar,cr,rfl,hrl⟩:=id hrv.out.ctor
    obtain ⟨x0,x1,_⟩:=(HB1.out.more hg).two
    obtain ⟨y0,y1,_⟩:=(HB2.out.more hg).two
    have HZ3:=Ac (HB3.out.more hg)
    have HZ4:=Ac (HB4.out.more hg)
    have HG:=Ac (Ae HGW.out hg)
    have HRV:Hid (D16 wr (.slice Ar (dig 65536 r).length cr) (dig 65536 (V % B))):=Ac (by rw [←d1];exact hrv.out)
    have HRL:Hid ((dig 65536 r).length=(dig 65536 (V % B)).length):=Ac (by rw [d1])
    have hiv:((0:Nat):Int)-1 = -1:=rfl
    rw [hiv]
    clear hds hrv hD hD2 hTC how hg hne d1 d2 d3 d4 hql hiv
    go_wp2_with fail
    refine HTC.out.mono ?_
    rintro e w4 ⟨v4,rfl,hd4,hv4,rfl⟩
    obtain ⟨A4,c4,rfl,_⟩:=id hd4.ctor
    have HD4:=Ac hd4
    clear hd4 hv4 HTC hrl
    obtain ⟨z0,z1,f0,f1⟩:=HZ3.out.two
    obtain ⟨u0,u1,f2,f3⟩:=HZ4.out.two
    generalize hL2:(dig 65536 r).length=L2 at *
    have HL2:=Ac hL2
    clear hL2
    generalize hL1:(dig 65536 (V/B)).length=L1 at *
    have HL1:=Ac hL1
    clear hL1
    cases n1 with
    | false =>
     have HSR:Hid (decide (x.tmod y<0)=false):=Ac (by rw [HRM.out.2];rfl)
     cases n2 with
     | false =>
      have HSQ:Hid (decide (x.tdiv y<0)=false):=Ac (by rw [HQ.out.2];rfl)
      as_aux_lemma =>
       obtain ⟨e1,e2,e3,e4⟩:=Ip (by omega) HZ3.out HZ4.out false false A4 Ar L1 c4 L2 cr
       obtain ⟨e5,e6,_⟩:=e1.two
       obtain ⟨e7,e8,_⟩:=e2.two
       have HE3:=Ac e3
       have HE4:=Ac (e4 w HG.out (by have:=HS.out;omega) (by have:=HS.out;omega))
       have HE:=Ac (And.intro e5 (And.intro e6 (And.intro e7 e8)))
       clear e1 e2 e3 e4 e5 e6 e7 e8
       go_wp2_with fail
       try simp only [Exit.inBlock,Exit.then]
       obtain ⟨e5,e6,e7,e8⟩:=HE.out
       clear x0 x1 y0 y1 z0 z1 f0 f1 u0 u1 f2 f3
       refine bodyPost_ret (v:=.tuple #[.agg #[.bool false,.slice A4 L1 c4],.agg #[.bool false,.slice Ar L2 cr]]) (by simp [results,Tryz.results145,go_sem,e5,e6,e7,e8]) rfl ⟨_,_,rfl,⟨_,by rw [HSQ.out],?_⟩,⟨_,by rw [HSR.out],?_⟩,HE4.out⟩
       ·rw [HQ.out.1];exact HE3.out _ _ HD4.out
       ·rw [HRM.out.1];exact HE3.out _ _ HRV.out
     | true =>
      have HSQ:Hid (decide (x.tdiv y<0)=decide (0<L1)):=Ac (by rw [HQ.out.2];rfl)
      as_aux_lemma =>
       obtain ⟨e1,e2,e3,e4⟩:=Ip (by omega) HZ3.out HZ4.out (decide (0<L1)) false A4 Ar L1 c4 L2 cr
       obtain ⟨e5,e6,_⟩:=e1.two
       obtain ⟨e7,e8,_⟩:=e2.two
       have HE3:=Ac e3
       have HE4:=Ac (e4 w HG.out (by have:=HS.out;omega) (by have:=HS.out;omega))
       have HE:=Ac (And.intro e5 (And.intro e6 (And.intro e7 e8)))
       clear e1 e2 e3 e4 e5 e6 e7 e8
       go_wp2_with fail
       try simp only [Exit.inBlock,Exit.then]
       obtain ⟨e5,e6,e7,e8⟩:=HE.out
       clear x0 x1 y0 y1 z0 z1 f0 f1 u0 u1 f2 f3
       refine bodyPost_ret (v:=.tuple #[.agg #[.bool (decide (0<L1)),.slice A4 L1 c4],.agg #[.bool false,.slice Ar L2 cr]]) (by simp [results,Tryz.results145,go_sem,e5,e6,e7,e8]) rfl ⟨_,_,rfl,⟨_,by rw [HSQ.out],?_⟩,⟨_,by rw [HSR.out],?_⟩,HE4.out⟩
       ·rw [HQ.out.1];exact HE3.out _ _ HD4.out
       ·rw [HRM.out.1];exact HE3.out _ _ HRV.out
    | true =>
     have HSR:Hid (decide (x.tmod y<0)=decide (0<L2)):=Ac (by rw [HRM.out.2,←HRL.out];rfl)
     cases n2 with
     | false =>
      have HSQ:Hid (decide (x.tdiv y<0)=decide (0<L1)):=Ac (by rw [HQ.out.2];rfl)
      as_aux_lemma =>
       obtain ⟨e1,e2,e3,e4⟩:=Ip (by omega) HZ3.out HZ4.out (decide (0<L1)) (decide (0<L2)) A4 Ar L1 c4 L2 cr
       obtain ⟨e5,e6,_⟩:=e1.two
       obtain ⟨e7,e8,_⟩:=e2.two
       have HE3:=Ac e3
       have HE4:=Ac (e4 w HG.out (by have:=HS.out;omega) (by have:=HS.out;omega))
       have HE:=Ac (And.intro e5 (And.intro e6 (And.intro e7 e8)))
       clear e1 e2 e3 e4 e5 e6 e7 e8
       go_wp2_with fail
       try simp only [Exit.inBlock,Exit.then]
       obtain ⟨e5,e6,e7,e8⟩:=HE.out
       clear x0 x1 y0 y1 z0 z1 f0 f1 u0 u1 f2 f3
       refine bodyPost_ret (v:=.tuple #[.agg #[.bool (decide (0<L1)),.slice A4 L1 c4],.agg #[.bool (decide (0<L2)),.slice Ar L2 cr]]) (by simp [results,Tryz.results145,go_sem,e5,e6,e7,e8]) rfl ⟨_,_,rfl,⟨_,by rw [HSQ.out],?_⟩,⟨_,by rw [HSR.out],?_⟩,HE4.out⟩
       ·rw [HQ.out.1];exact HE3.out _ _ HD4.out
       ·rw [HRM.out.1];exact HE3.out _ _ HRV.out
     | true =>
      have HSQ:Hid (decide (x.tdiv y<0)=false):=Ac (by rw [HQ.out.2];rfl)
      as_aux_lemma =>
       obtain ⟨e1,e2,e3,e4⟩:=Ip (by omega) HZ3.out HZ4.out false (decide (0<L2)) A4 Ar L1 c4 L2 cr
       obtain ⟨e5,e6,_⟩:=e1.two
       obtain ⟨e7,e8,_⟩:=e2.two
       have HE3:=Ac e3
       have HE4:=Ac (e4 w HG.out (by have:=HS.out;omega) (by have:=HS.out;omega))
       have HE:=Ac (And.intro e5 (And.intro e6 (And.intro e7 e8)))
       clear e1 e2 e3 e4 e5 e6 e7 e8
       go_wp2_with fail
       try simp only [Exit.inBlock,Exit.then]
       obtain ⟨e5,e6,e7,e8⟩:=HE.out
       clear x0 x1 y0 y1 z0 z1 f0 f1 u0 u1 f2 f3
       refine bodyPost_ret (v:=.tuple #[.agg #[.bool false,.slice A4 L1 c4],.agg #[.bool (decide (0<L2)),.slice Ar L2 cr]]) (by simp [results,Tryz.results145,go_sem,e5,e6,e7,e8]) rfl ⟨_,_,rfl,⟨_,by rw [HSQ.out],?_⟩,⟨_,by rw [HSR.out],?_⟩,HE4.out⟩
       ·rw [HQ.out.1];exact HE3.out _ _ HD4.out
       ·rw [HRM.out.1];exact HE3.out _ _ HRV.out
end
section
open Go.RowKit Go.Maps
open Rat
def NB (w:World) (b:Nat) (z:Int):Prop:=∃ A c,Blk w b #[.bool (decide (z<0)),.slice A (d16 z).length c]∧D16 w (.slice A (d16 z).length c) (d16 z)
theorem NB.nz {w:World} {b:Nat} {z:Int} (h:NB w b z):∃ A c,Blk w b #[.bool (decide (z<0)),.slice A (d16 z).length c]∧NZ w (.agg #[.bool (decide (z<0)),.slice A (d16 z).length c]) z∧D16 w (.slice A (d16 z).length c) (d16 z):=by
 obtain ⟨A,c,h1,h2⟩:=h
 exact ⟨A,c,h1,⟨_,rfl,h2⟩,h2⟩
theorem NB.more {w w':World} {b:Nat} {z:Int} (h:NB w b z) (hg:w.grownBy w' none):NB w' b z:=by
 obtain ⟨A,c,h1,h2⟩:=h
 exact ⟨A,c,h1.more hg,h2.more hg⟩
theorem NZ.form {w:World} {nv:Value} {z:Int} (h:NZ w nv z):∃ A c,nv=.agg #[.bool (decide (z<0)),.slice A (d16 z).length c]∧D16 w (.slice A (d16 z).length c) (d16 z):=by
 obtain ⟨v,rfl,h⟩:=h
 obtain ⟨A,c,rfl,_⟩:=h.ctor
 exact ⟨A,c,rfl,h⟩
theorem Ym {x y:Int} (h:x.natAbs≤y.natAbs):(d16 x).length≤(d16 y).length:=J2 h
theorem Z0 (a b:Nat):Nat.gcd b (a % b)=Nat.gcd a b:=by rw [Nat.gcd_comm b (a % b),←Nat.gcd_rec,Nat.gcd_comm]
theorem Xz {w:World} {p q r:Nat} {cs:Array Value} (h:Blk w r cs) (hp:r≠p) (hq:r≠q) (a b u v:Value):Blk ((((w.setCell ⟨p,0,none⟩ a).setCell ⟨p,1,none⟩ b).setCell ⟨q,0,none⟩ u).setCell ⟨q,1,none⟩ v) r cs :=
 ((((h.other (Au _ p 0 a) hp).other (Au _ p 1 b) hp).other (Au _ q 0 u) hq).other (Au _ q 1 v) hq)
set_option maxRecDepth 100000 in
theorem Ju (w:World) (v1 v2:Value) (x y:Int) (hx:NZ w v1 x) (hy:NZ w v2 y) (lx:(d16 x).length≤1099511627775) (ly:(d16 y).length≤1099511627775) :
  Calls Tryz.prog 177 #[v1,v2] w fun e w'=>∃ nv,e=.returned nv∧NZ w' nv (Nat.gcd x.natAbs y.natAbs:Int)∧w.grownBy w' none:=by
 obtain ⟨A1,c1,rfl,hdx⟩:=hx.form
 obtain ⟨A2,c2,rfl,hdy⟩:=hy.form
 have g1:=Af w (.cells #[.bool (decide (x<0)),.slice A1 (d16 x).length c1] 139) none
 have g2:=Af (w.alloc (.cells #[.bool (decide (x<0)),.slice A1 (d16 x).length c1] 139)) (.cells #[.bool (decide (y<0)),.slice A2 (d16 y).length c2] 139) none
 have g3:=Af ((w.alloc (.cells #[.bool (decide (x<0)),.slice A1 (d16 x).length c1] 139)).alloc (.cells #[.bool (decide (y<0)),.slice A2 (d16 y).length c2] 139)) (.cells #[.bool false,.slice none 0 0] 139) none
 have hB1:=(Blk.new w #[.bool (decide (x<0)),.slice A1 (d16 x).length c1] 139).more (Ae g2 g3)
 have hB2:=(Blk.new (w.alloc (.cells #[.bool (decide (x<0)),.slice A1 (d16 x).length c1] 139)) #[.bool (decide (y<0)),.slice A2 (d16 y).length c2] 139).more g3
 have hB3:=Blk.new ((w.alloc (.cells #[.bool (decide (x<0)),.slice A1 (d16 x).length c1] 139)).alloc (.cells #[.bool (decide (y<0)),.slice A2 (d16 y).length c2] 139)) #[.bool false,.slice none 0 0] 139
 have hsz:(((w.alloc (.cells #[.bool (decide (x<0)),.slice A1 (d16 x).length c1] 139)).alloc (.cells #[.bool (decide (y<0)),.slice A2 (d16 y).length c2] 139)).alloc (.cells #[.bool false,.slice none 0 0] 139)).heap.size=w.heap.size+3:=by simp
 rw [World.size_alloc] at hB2 hB3
 rw [World.size_alloc] at hB3
 have HGW:=Ac (Ae g1 (Ae g2 g3))
 have HX:=Ac (hx.more HGW.out)
 have HY:=Ac (hy.more HGW.out)
 have HB1:=Ac hB1
 have HB2:=Ac hB2
 have HB3:=Ac hB3
 have HSZ:=Ac hsz
 have HLX:Hid ((d16 (x.natAbs:Int)).length≤1099511627775):=Ac (by unfold d16 at *;rw [Int.natAbs_natCast];exact lx)
 have HLY:Hid ((d16 (y.natAbs:Int)).length≤1099511627775):=Ac (by unfold d16 at *;rw [Int.natAbs_natCast];exact ly)
 obtain ⟨x0,x1,fx0,fx1⟩:=hB1.two
 obtain ⟨y0,y1,fy0,fy1⟩:=hB2.two
 clear hx hy hdx hdy lx ly g1 g2 g3 hB1 hB2 hB3 hsz
 go_enter Tryz.func177,Tryz.ntmps177
 go_upto_region 1 with (fail)
 generalize ((w.alloc (.cells #[.bool (decide (x<0)),.slice A1 (d16 x).length c1] 139)).alloc (.cells #[.bool (decide (y<0)),.slice A2 (d16 y).length c2] 139)).alloc (.cells #[.bool false,.slice none 0 0] 139)=wa at *
 generalize hs:w.heap.size=s at *
 have HS:=Ac hs
 clear hs
 have hne:s≠s+1:=by omega
 have HENT:=Ac (show ∀ args w,(callFunc 198 args).run Tryz.prog w=.ok (.enter 198 args) w from enters_of Tryz.func198 (by kernel_rfl) rfl)
 have habs:∀ W v z,wa.grownBy W none→NZ W v z→Calls Tryz.prog 198 #[v] W fun e w'=>∃ v',e=.returned v'∧(∃ A c,v'=.agg #[.bool (decide ((z.natAbs:Int)<0)),.slice A (d16 (z.natAbs:Int)).length c]∧D16 w' (.slice A (d16 (z.natAbs:Int)).length c) (d16 (z.natAbs:Int))∧wa.grownBy w' none∧W.grownBy w' none):=fun W v z hW hz=>(Tw W v z hz).mono fun e w' ⟨v',e1,e2,e3⟩=>by
  obtain ⟨A,c,rfl,hd⟩:=e2.form
  exact ⟨_,e1,A,c,rfl,hd,Ae hW e3,e3⟩
 have HABS:=Ac habs
 have HCW:=Ac (fun W (h:wa.grownBy W none)=>(⟨Aj h x0 (by simp),Aj h x1 (by simp),Aj h y0 (by simp),Aj h y1 (by simp)⟩:W.cell? ⟨s,0,none⟩=some (.bool (decide (x<0)))∧W.cell? ⟨s,1,none⟩=some (.slice A1 (d16 x).length c1)∧W.cell? ⟨s+1,0,none⟩=some (.bool (decide (y<0)))∧W.cell? ⟨s+1,1,none⟩=some (.slice A2 (d16 y).length c2)))
 clear habs
 go_cut [] (fun wx=>w.grownBy wx none∧Hid (NB wx s (x.natAbs:Int)∧NB wx (s+1) (y.natAbs:Int)∧Blk wx (s+1+1) #[.bool false,.slice none 0 0]))
 case first =>
  go_region_law (first
   | (refine Fo (by rfl) 198 (.tmp 7) _ (by rfl) (.agg #[.bool (decide (x<0)),.slice A1 (d16 x).length c1]) (by rfl) HENT.out _ (HABS.out _ _ x (by (focus ((repeat (first | assumption | exact Al _ _ | exact Ai _ _ | exact Af _ _ _ | refine Ae ?_ (Af _ _ _) | refine Ae ?_ (Ai _ _) | refine Ae ?_ (by assumption)));done))) (HX.out.more (by (focus ((repeat (first | assumption | exact Al _ _ | exact Ai _ _ | exact Af _ _ _ | refine Ae ?_ (Af _ _ _) | refine Ae ?_ (Ai _ _) | refine Ae ?_ (by assumption)));done))))) ?_;rintro v5 w5 ⟨A5,c5,rfl,hd5,hg5,hk5⟩;obtain ⟨x0,x1,fx0,fx1⟩:=(HB1.out.more hg5).two;obtain ⟨y0,y1,fy0,fy1⟩:=(HB2.out.more hg5).two)
   | (refine Fo (by rfl) 198 (.tmp 9) _ (by rfl) (.agg #[.bool (decide (y<0)),.slice A2 (d16 y).length c2]) (by rfl) HENT.out _ (HABS.out _ _ y (by (focus ((repeat (first | assumption | exact Al _ _ | exact Ai _ _ | exact Af _ _ _ | refine Ae ?_ (Af _ _ _) | refine Ae ?_ (Ai _ _) | refine Ae ?_ (by assumption)));done))) (HY.out.more (by (focus ((repeat (first | assumption | exact Al _ _ | exact Ai _ _ | exact Af _ _ _ | refine Ae ?_ (Af _ _ _) | refine Ae ?_ (Ai _ _) | refine Ae ?_ (by assumption)));done))))) ?_;rintro v6 w6 ⟨A6,c6,rfl,hd6,hg6,hk6⟩;have hd5:=hd5.more hk6;obtain ⟨x0,x1,fx0,fx1⟩:=(HB1.out.more hg6).two;obtain ⟨y0,y1,fy0,fy1⟩:=(HB2.out.more hg6).two)
   | (fail))
  all_goals
   go_wp2_with fail
   go_meet
   have e:=Ip hne (HB1.out.more hg6) (HB2.out.more hg6) (decide ((x.natAbs:Int)<0)) (decide ((y.natAbs:Int)<0)) A5 A6 (d16 (x.natAbs:Int)).length c5 (d16 (y.natAbs:Int)).length c6
   exact ⟨e.2.2.2 w (Ae HGW.out hg6) (by have:=HS.out;omega) (by have:=HS.out;omega),Ac ⟨⟨A5,c5,e.1,e.2.2.1 _ _ hd5⟩,⟨A6,c6,e.2.1,e.2.2.1 _ _ hd6⟩,Xz (HB3.out.more hg6) (by omega) (by omega) _ _ _ _⟩⟩
 case rest =>
  obtain ⟨hgw,hfc⟩:=hcut
  have HGC:=Ac hgw
  clear hgw HCW HABS HENT HX HY HB1 HB2 HB3 HGW x0 x1 y0 y1 fx0 fx1 fy0 fy1
  go_wp2_with fail
  go_loopg [5] (y.natAbs) (fun g v5 wr=>w.grownBy wr none∧Hid (∃ a b:Nat,b≤g∧Nat.gcd a b=Nat.gcd x.natAbs y.natAbs∧(d16 (a:Int)).length≤1099511627775∧(d16 (b:Int)).length≤1099511627775∧NB wr s (a:Int)∧NB wr (s+1) (b:Int)∧Blk wr (s+1+1) #[.bool false,.slice none 0 0]))
  case atStart=>exact ⟨HGC.out,Ac ⟨x.natAbs,y.natAbs,Nat.le_refl _,rfl,HLX.out,HLY.out,hfc.out.1,hfc.out.2.1,hfc.out.2.2⟩⟩
  case round =>
   clear HGC hfc
   obtain ⟨hg,hst⟩:=hrel
   obtain ⟨a,b,hbg,hgcd,la,lb,ha,hb,hz⟩:=hst.out
   obtain ⟨Aa,ca,hba,hna,_⟩:=ha.nz
   obtain ⟨Ab,cb,hbb,hnb,hdb⟩:=hb.nz
   have HDB:=Ac hdb
   have HBG:=Ac hbg
   clear hdb hbg
   obtain ⟨x0,x1,fx0,fx1⟩:=hba.two
   obtain ⟨y0,y1,fy0,fy1⟩:=hbb.two
   obtain ⟨z0,z1,fz0,fz1⟩:=hz.two
   have HG:=Ac hg
   have HBA:=Ac hba
   have HBB:=Ac hbb
   have HZ:=Ac hz
   have HGCD:=Ac hgcd
   have HNA:=Ac hna
   have HNB:=Ac hnb
   have HLA:=Ac la
   have HLB:=Ac lb
   have hlb:0<(d16 (b:Int)).length↔b≠0:=J3
   clear hst hg hgcd ha hb hz hna hnb hba hbb la lb
   by_cases hb0:b=0
   ·as_aux_lemma =>
     have t:¬ (0:Int)<((d16 (b:Int)).length:Int):=by omega
     have HGE:Hid ((Nat.gcd x.natAbs y.natAbs:Int)=(a:Int)):=Ac (by rw [←HGCD.out,hb0,Nat.gcd_zero_right])
     clear hlb hb0
     go_wp2_with fail
     obtain ⟨w4,hw4,hB4,hG4⟩:∃ w4,w4=((wr.setCell ⟨s+1+1,0,none⟩ (.bool (decide ((a:Int)<0)))).setCell ⟨s+1+1,1,none⟩ (.slice Aa (d16 (a:Int)).length ca))∧Blk w4 (s+1+1) #[.bool (decide ((a:Int)<0)),.slice Aa (d16 (a:Int)).length ca]∧wr.grownBy w4 (some (s+1+1)):=⟨_,rfl,(HZ.out.set 0 _).set 1 _,Ae (Au _ _ _ _) (Au _ _ _ _)⟩
     try simp only [Exit.inBlock,Exit.then]
     rw [←hw4]
     clear z0 z1 fz0 fz1 hw4
     obtain ⟨z0,z1,_⟩:=hB4.two
     refine bodyPost_ret (v:=.agg #[.bool (decide ((a:Int)<0)),.slice Aa (d16 (a:Int)).length ca]) (by simp [results,Tryz.results177,go_sem,z0,z1]) rfl ⟨_,rfl,?_,Aw HG.out hG4 (by have:=HS.out;omega)⟩
     rw [HGE.out]
     exact HNA.out.keep HZ.out hG4
   ·as_aux_lemma =>
     have t:(0:Int)<((d16 (b:Int)).length:Int):=by omega
     have hbi:(b:Int)≠0:=by omega
     have HDV:=Ac (El wr _ _ (a:Int) (b:Int) HNA.out HNB.out hbi (Nat.le_trans HLA.out (by omega)) HLB.out)
     have HB0:=Ac hb0
     clear hlb hbi hb0
     go_wp2_with fail
     refine HDV.out.mono ?_
     rintro e w2 ⟨qv,rv,rfl,hq,hr,hg2⟩
     have hmod:((a:Int).tmod (b:Int))=((a % b:Nat):Int):=(Int.ofNat_tmod a b).symm
     rw [hmod] at hr
     generalize (a:Int).tdiv (b:Int)=qz at hq
     obtain ⟨m,hm⟩:∃ m,a % b=m:=⟨_,rfl⟩
     rw [hm] at hr
     have HMM:=Ac hm
     clear hm
     obtain ⟨Aq,cq,rfl,hdq⟩:=hq.form
     obtain ⟨Ar,cr,rfl,hdr⟩:=hr.form
     have ga:=Af w2 (.cells #[Value.bool (decide (qz<0)),.slice Aq (d16 qz).length cq] 139) none
     have gb:=Af (w2.alloc (.cells #[Value.bool (decide (qz<0)),.slice Aq (d16 qz).length cq] 139)) (.cells #[.bool (decide ((m:Int)<0)),.slice Ar (d16 (m:Int)).length cr] 139) none
     have hRB:=Blk.new (w2.alloc (.cells #[Value.bool (decide (qz<0)),.slice Aq (d16 qz).length cq] 139)) #[.bool (decide ((m:Int)<0)),.slice Ar (d16 (m:Int)).length cr] 139
     rw [World.size_alloc] at hRB
     have HG3:=Ac (Ae hg2 (Ae ga gb))
     have HRB:=Ac hRB
     have HDR:=Ac (hdr.more (Ae ga gb))
     have hlt2:=HBB.out.lt
     have hge:=hg2.size
     have HRN:Hid (w2.heap.size+1≠s∧w2.heap.size+1≠s+1):=Ac (by omega)
     clear hq hr hdq hdr hmod hg2 ga gb hRB x0 x1 y0 y1 fx0 fx1 fy0 fy1 z0 z1 fz0 fz1 t HDV hlt2 hge
     go_upto_region 4 with (fail)
     generalize (w2.alloc (.cells #[Value.bool (decide (qz<0)),.slice Aq (d16 qz).length cq] 139)).alloc (.cells #[.bool (decide ((m:Int)<0)),.slice Ar (d16 (m:Int)).length cr] 139)=w3 at *
     generalize w2.heap.size+1=rb at *
     have hbb:=HBB.out.more HG3.out
     have hba:=HBA.out.more HG3.out
     obtain ⟨x0,x1,fx0,fx1⟩:=hba.two
     obtain ⟨y0,y1,fy0,fy1⟩:=hbb.two
     obtain ⟨v0,v1,_⟩:=HRB.out.two
     have hn1:=HRN.out.1
     have hn2:=HRN.out.2
     clear hba hbb
     go_region_law (fail)
     all_goals
      go_wp2_with fail
      have hmb:m<b:=by rw [←HMM.out];exact Nat.mod_lt _ (by have:=HB0.out;omega)
      have hbg:=HBG.out
      go_roundg m
      case measure=>omega
      case rel =>
       have e:=Ip hne (HBA.out.more HG3.out) (HBB.out.more HG3.out) (decide ((b:Int)<0)) (decide ((m:Int)<0)) Ab Ar (d16 (b:Int)).length cb (d16 (m:Int)).length cr
       refine ⟨Ae (e.2.2.2 w (Ae HG.out HG3.out) (by have:=HS.out;omega) (by have:=HS.out;omega)) (Ai _ _),Ac ⟨b,m,Nat.le_refl _,?_,HLB.out,?_,⟨Ab,cb,e.1.more (Ai _ _),(e.2.2.1 _ _ (HDB.out.more HG3.out)).more (Ai _ _)⟩,⟨Ar,cr,e.2.1.more (Ai _ _),(e.2.2.1 _ _ HDR.out).more (Ai _ _)⟩,(Xz (HZ.out.more HG3.out) (by omega) (by omega) _ _ _ _).more (Ai _ _)⟩⟩
       ·rw [←HMM.out,Z0];exact HGCD.out
       ·exact Nat.le_trans (J2 (Nat.le_of_lt hmb)) HLB.out
end
section
open Go.RowKit
open Rat
end
section
open Go.RowKit
open Rat
theorem LimQ.sub {p q:Rat} {k:Nat} (hp:LimQ p k) (hq:LimQ q k):LimQ (p-q) (2*k+1):=by
 rw [Rat.sub_eq_add_neg];exact hp.add hq.neg
theorem Jl (w:World) (b:Nat) (v0 v1 v2 v3:Value):w.grownBy ((((w.setCell ⟨b,0,none⟩ v0).setCell ⟨b,1,none⟩ v1).setCell ⟨b,2,none⟩ v2).setCell ⟨b,3,none⟩ v3) (some b) :=
 Ae (Ae (Ae (Au _ _ _ _) (Au _ _ _ _)) (Au _ _ _ _)) (Au _ _ _ _)
end
end Go.Proofs.YtckbiimikeiejaaGreatDoor
