/- SamA. -/
import Derived.Test.YtmfmfpmkgmkgiaaGreatDoorMah
import Derived.Test.YtmfmfpmkgmkgiaaGreatDoorMat
import Derived.Laws.StructEq
import Derived.Deep.DeepCutAuto
set_option linter.unusedVariables false
set_option linter.unusedSimpArgs false
set_option maxHeartbeats 40000000
namespace Go.Proofs.YtmfmfpmkgmkgiaaGreatDoor
section
open Go.RowKit Go.Maps
theorem Yt (a b c d:Int) (w:World):(Op.equalIn 10000 25 (.agg #[.int .i64 a,.int .i64 b]) (.agg #[.int .i64 c,.int .i64 d])).run Tryz.prog w=.ok (a==c&&b==d) w:=by
 have u2:=Tryz.underlying2
 have u3:=Tryz.underlying3
 have a2:=Tryz.isAgg2
 have a3:=Tryz.isAgg3
 have z2:=Tryz.sizeOf2
 have z3:=Tryz.sizeOf3
 have hS:Tryz.prog.underlying 25=some (.struct (Tryz.prog.fieldsOf 25)):=by kernel_rfl
 have hp:Tryz.prog.stoodInHeld 25=false:=by kernel_rfl
 rw [show (10000:Nat)=9999+1 from rfl,run_equalIn_agg w 9999 25 _ _ hS hp]
 simp only [Program.fieldsOf,Tryz.underlying25]
 go_simp
 by_cases h1:a=c<;>by_cases h2:b=d<;>simp [h1,h2]
set_option maxRecDepth 100000 in
theorem Z3:Tryz.prog.eqGuardType Tryz.prog.depth 25=false:=by kernel_rfl
theorem A20 {a b:ByteArray} (h:a.toList=b.toList):a=b:=by
 rw [Lib.toList_data,Lib.toList_data] at h
 exact ByteArray.ext (Array.toList_inj.1 h)
theorem Ir {α:Type} {l1 l2:List α} {d:α} (hl:l1.length=l2.length) (h:∀ t,t<l1.length→l1.getD t d=l2.getD t d):l1=l2:=by
 refine List.ext_getElem hl fun i h1 h2=>?_
 have:=h i h1
 rwa [List.getD_eq_getElem?_getD,List.getD_eq_getElem?_getD,List.getElem?_eq_getElem h1,List.getElem?_eq_getElem h2] at this
theorem O1 {α:Type} {l1 l2:List α} {d:α} {k:Nat} (h:¬ l1.getD k d=l2.getD k d):¬ l1=l2:=fun e=>h (by rw [e])
set_option maxRecDepth 100000 in
theorem I7 (w:World) (v1 v2:Value) (l1 l2:List (Int × Int)) (hx:NumRow w v1 l1) (hy:NumRow w v2 l2) :
  Calls Tryz.prog 176 #[v1,v2] w fun e w'=>e=.returned (.bool (decide (l1=l2)))∧w.grownBy w' none:=by
 obtain ⟨D,hD⟩:∃ D,decide (l1=l2)=D:=⟨_,rfl⟩
 rw [hD]
 have HD:=Ac hD
 clear hD
 obtain ⟨A1,c1,rfl,m1⟩:=hx.ctor
 obtain ⟨A2,c2,rfl,m3⟩:=hy.ctor
 by_cases hl:l1.length=l2.length
 ·have t1:((l1.length:Int) != (l2.length:Int))=false:=by rw [hl];simp
  have HL:=Ac hl
  clear hl
  go_enter Tryz.func176,Tryz.ntmps176
  go_wp2_with fail
  go_loopw [5] (fun iv wr=>∃ k:Nat,k≤l1.length∧iv=.int .i64 k∧w.grownBy wr none∧Hid (∀ t,t<k→l1.getD t (0,0)=l2.getD t (0,0))) (fun iv _=>(l1.length-intOf iv).toNat)
  case atStart=>exact ⟨0,by omega,rfl,Al _ _,Ac (fun t ht=>by omega)⟩
  case round =>
   obtain ⟨k,hk,rfl,hg,hb⟩:=hrel
   by_cases hlt:k<l1.length
   ·obtain ⟨b1,o1,rfl,u1,u1'⟩:=(hx.more hg).at hlt
    obtain ⟨b2,o2,rfl,u2,u2'⟩:=(hy.more hg).at (i:=k) (by have:=HL.out;omega)
    have hk2:(k:Int)<(l2.length:Int):=by have:=HL.out;omega
    generalize h1:l1.getD k (0,0)=x at *
    generalize h2:l2.getD k (0,0)=y at *
    have HX:=Ac h1
    have HY:=Ac h2
    have HG:=Ac hg
    clear hg h1 h2
    obtain ⟨x1,x2⟩:=x
    obtain ⟨y1,y2⟩:=y
    simp only at u1 u1' u2 u2'
    have eqn:=fun W=>Yt x1 x2 y1 y2 W
    have gdn:=Z3
    by_cases hxy:(x1,x2)=(y1,y2)
    ·have hb2:(x1==y1&&x2==y2)=true:=by injection hxy with e1 e2;rw [e1,e2];simp
     rw [hb2] at eqn
     have HE:=Ac hxy
     clear hxy hb2
     go_wp2_with fail
     go_quiet (fail)
     go_wp2_with fail
     exact ⟨⟨k+1,by omega,by go_num,Ae HG.out (Az _ _ _),Ac (fun t ht=>by
      by_cases htk:t=k
      ·subst htk;rw [HX.out,HY.out];exact HE.out
      ·exact hb.out t (by omega))⟩,by simp [intOf];omega⟩
    ·have hb2:(x1==y1&&x2==y2)=false:=by
      rw [Bool.and_eq_false_iff,beq_eq_false_iff_ne,beq_eq_false_iff_ne]
      by_cases e1:x1=y1
      ·exact .inr fun e2=>hxy (by rw [e1,e2])
      ·exact .inl e1
     rw [hb2] at eqn
     have HF:Hid (D=false):=Ac (by rw [←HD.out,decide_eq_false_iff_not];exact O1 (d:=(0,0)) (k:=k) (by rw [HX.out,HY.out];exact hxy))
     clear hxy hb2
     go_wp2_with fail
     go_quiet (fail)
     go_wp2_with fail
     go_ret
     exact ⟨by rw [HF.out];rfl,Ae HG.out (Az _ _ _)⟩
   ·have hkk:k=l1.length:=by omega
    have HT:Hid (D=true):=Ac (by rw [←HD.out,decide_eq_true_iff];exact Ir HL.out fun t ht=>hb.out t (by omega))
    have hge:¬ (k:Int)<(l1.length:Int):=by omega
    clear hkk
    go_wp2_with fail
    go_ret
    exact ⟨by rw [HT.out];rfl,hg⟩
 ·have t1:((l1.length:Int) != (l2.length:Int))=true:=by rw [bne_iff_ne];omega
  have HF:Hid (D=false):=Ac (by rw [←HD.out,decide_eq_false_iff_not];exact fun e=>hl (by rw [e]))
  clear hl
  go_enter Tryz.func176,Tryz.ntmps176
  go_wp2_with fail
  go_ret
  exact ⟨by rw [HF.out];rfl,Al _ _⟩
set_option maxRecDepth 100000 in
theorem I8 (w:World) (k1 k2:Int) (va sa vb sb:Value) (v1 v2:List (Int × Int)) (s1 s2:List Int) (ha:NumRow w va v1) (hb:IntRow w sa s1) (hc:NumRow w vb v2) (hd:IntRow w sb s2) :
  Calls Tryz.prog 109 #[.agg #[.int .i64 k1,va,sa],.agg #[.int .i64 k2,vb,sb]] w fun e w'=>e=.returned (.bool (decide (k1=k2∧s1=s2∧v1=v2)))∧w.grownBy w' none:=by
 obtain ⟨D,hD⟩:∃ D,decide (k1=k2∧s1=s2∧v1=v2)=D:=⟨_,rfl⟩
 rw [hD]
 have HD:=Ac hD
 clear hD
 have HA:=Ac ha
 have HB:=Ac hb
 have HC:=Ac hc
 have HDD:=Ac hd
 obtain ⟨A1,c1,rfl,m1⟩:=ha.ctor
 obtain ⟨A2,c2,rfl,m2,m2'⟩:=hb.ctor
 obtain ⟨A3,c3,rfl,m3⟩:=hc.ctor
 obtain ⟨A4,c4,rfl,m4,m4'⟩:=hd.ctor
 generalize hl1:v1.length=lv1 at *
 generalize hl2:v2.length=lv2 at *
 generalize hl3:s1.length=ls1 at *
 generalize hl4:s2.length=ls2 at *
 have H3:=Ac hl3
 have H4:=Ac hl4
 clear hl1 hl2 hl3 hl4 ha hb hc hd
 have HGW:=Ac (Ae (Af w (.cells #[.int .i64 k1,.slice A1 lv1 c1,.slice A2 ls1 c2] 85) none) (Af _ (.cells #[.int .i64 k2,.slice A3 lv2 c3,.slice A4 ls2 c4] 85) none))
 have hB1:=(Blk.new w #[.int .i64 k1,.slice A1 lv1 c1,.slice A2 ls1 c2] 85).more (Af _ (.cells #[.int .i64 k2,.slice A3 lv2 c3,.slice A4 ls2 c4] 85) none)
 have hB2:=Blk.new (w.alloc (.cells #[.int .i64 k1,.slice A1 lv1 c1,.slice A2 ls1 c2] 85)) #[.int .i64 k2,.slice A3 lv2 c3,.slice A4 ls2 c4] 85
 rw [World.size_alloc] at hB2
 obtain ⟨x0,x1,x2⟩:=hB1.three
 obtain ⟨y0,y1,y2⟩:=hB2.three
 clear hB1 hB2
 go_enter Tryz.func109,Tryz.ntmps109
 go_upto_region 1 with (fail)
 generalize (w.alloc (.cells #[.int .i64 k1,.slice A1 lv1 c1,.slice A2 ls1 c2] 85)).alloc (.cells #[.int .i64 k2,.slice A3 lv2 c3,.slice A4 ls2 c4] 85)=wa at *
 generalize w.heap.size=s at *
 by_cases hk:k1=k2
 ·have t0:(k1 != k2)=false:=by rw [bne_eq_false_iff_eq];exact hk
  have HK:=Ac hk
  clear hk
  by_cases hl:ls1=ls2
  ·have t1:((ls1:Int) != (ls2:Int))=false:=by rw [hl];simp
   have HL:=Ac hl
   clear hl
   go_wp2_with fail
   go_loopw [5] (fun iv wr=>∃ k:Nat,k≤ls1∧iv=.int .i64 k∧wa.grownBy wr none∧Hid (∀ t,t<k→s1.getD t 0=s2.getD t 0)) (fun iv _=>(ls1-intOf iv).toNat)
   case atStart=>exact ⟨0,by omega,rfl,Al _ _,Ac (fun t ht=>by omega)⟩
   case round =>
    obtain ⟨k,hk,rfl,hg,hb⟩:=hrel
    have x1:=Aj hg x1 (by simp)
    have x2:=Aj hg x2 (by simp)
    have y1:=Aj hg y1 (by simp)
    have y2:=Aj hg y2 (by simp)
    by_cases hlt:k<ls1
    ·obtain ⟨b1,o1,rfl,_,u1⟩:=(HB.out.more (Ae HGW.out hg)).at (i:=k) (by have:=H3.out;omega)
     obtain ⟨b2,o2,rfl,_,u2⟩:=(HDD.out.more (Ae HGW.out hg)).at (i:=k) (by have:=H4.out;have:=HL.out;omega)
     have hk2:(k:Int)<(ls2:Int):=by have:=HL.out;omega
     generalize h1:s1.getD k 0=x at *
     generalize h2:s2.getD k 0=y at *
     have HX:=Ac h1
     have HY:=Ac h2
     have HG:=Ac hg
     clear hg h1 h2
     by_cases hxy:x=y
     ·have t2:(x != y)=false:=by rw [hxy];simp
      have HE:=Ac hxy
      clear hxy
      go_wp2_with fail
      go_quiet (fail)
      go_wp2_with fail
      exact ⟨⟨k+1,by omega,by go_num,Ae HG.out (Az _ _ _),Ac (fun t ht=>by
       by_cases htk:t=k
       ·subst htk;rw [HX.out,HY.out];exact HE.out
       ·exact hb.out t (by omega))⟩,by simp [intOf];omega⟩
     ·have t2:(x != y)=true:=by rw [bne_iff_ne];exact hxy
      have HF:Hid (D=false):=Ac (by rw [←HD.out,decide_eq_false_iff_not];exact fun h=>O1 (d:=0) (k:=k) (by rw [HX.out,HY.out];exact hxy) h.2.1)
      clear hxy
      go_wp2_with fail
      go_quiet (fail)
      go_wp2_with fail
      go_ret
      exact ⟨by rw [HF.out];rfl,Ae HGW.out (Ae HG.out (Az _ _ _))⟩
    ·have HS:Hid (s1=s2):=Ac (Ir (by rw [H3.out,H4.out];exact HL.out) fun t ht=>hb.out t (by have:=H3.out;omega))
     have HT:Hid (decide (v1=v2)=D):=Ac (by rw [←HD.out];simp [HK.out,HS.out])
     have hge:¬ (k:Int)<(ls1:Int):=by omega
     have HCC:=Ac (I7 wr _ _ v1 v2 (HA.out.more (Ae HGW.out hg)) (HC.out.more (Ae HGW.out hg)))
     rw [HT.out] at HCC
     have HG:=Ac hg
     clear hg hb
     go_wp2_with fail
     refine HCC.out.mono ?_
     rintro e w5 ⟨rfl,hg5⟩
     go_wp2_with fail
     go_ret
     exact ⟨rfl,Ae HGW.out (Ae HG.out hg5)⟩
  ·have t1:((ls1:Int) != (ls2:Int))=true:=by rw [bne_iff_ne];omega
   have HF:Hid (D=false):=Ac (by rw [←HD.out,decide_eq_false_iff_not];exact fun e=>hl (by rw [←H3.out,←H4.out,e.2.1]))
   clear hl
   go_wp2_with fail
   go_ret
   exact ⟨by rw [HF.out];rfl,HGW.out⟩
 ·have t0:(k1 != k2)=true:=by rw [bne_iff_ne];exact hk
  have HF:Hid (D=false):=Ac (by rw [←HD.out,decide_eq_false_iff_not];exact fun e=>hk e.1)
  clear hk
  go_wp2_with fail
  go_ret
  exact ⟨by rw [HF.out];rfl,HGW.out⟩
set_option maxRecDepth 100000 in
theorem I6 (w:World) (n1 n2:ByteArray) (k1 k2:Int) (va sa vb sb:Value) (g1 g2 u1 u2:List (Int × Int)) (ha:NumRow w va g1) (hb:NumRow w sa u1) (hc:NumRow w vb g2) (hd:NumRow w sb u2) :
  Calls Tryz.prog 110 #[.agg #[.string n1,.int .u8 k1,va,sa],.agg #[.string n2,.int .u8 k2,vb,sb]] w fun e w'=>e=.returned (.bool (decide (n1=n2∧k1=k2∧g1=g2∧u1=u2)))∧w.grownBy w' none:=by
 obtain ⟨D,hD⟩:∃ D,decide (n1=n2∧k1=k2∧g1=g2∧u1=u2)=D:=⟨_,rfl⟩
 rw [hD]
 have HD:=Ac hD
 clear hD
 have HA:=Ac ha
 have HB:=Ac hb
 have HC:=Ac hc
 have HDD:=Ac hd
 obtain ⟨A1,c1,rfl,m1⟩:=ha.ctor
 obtain ⟨A2,c2,rfl,m2⟩:=hb.ctor
 obtain ⟨A3,c3,rfl,m3⟩:=hc.ctor
 obtain ⟨A4,c4,rfl,m4⟩:=hd.ctor
 clear ha hb hc hd
 have HGW:=Ac (Ae (Af w (.cells #[.string n1,.int .u8 k1,.slice A1 g1.length c1,.slice A2 u1.length c2] 87) none) (Af _ (.cells #[.string n2,.int .u8 k2,.slice A3 g2.length c3,.slice A4 u2.length c4] 87) none))
 have hB1:=(Blk.new w #[.string n1,.int .u8 k1,.slice A1 g1.length c1,.slice A2 u1.length c2] 87).more (Af _ (.cells #[.string n2,.int .u8 k2,.slice A3 g2.length c3,.slice A4 u2.length c4] 87) none)
 have hB2:=Blk.new (w.alloc (.cells #[.string n1,.int .u8 k1,.slice A1 g1.length c1,.slice A2 u1.length c2] 87)) #[.string n2,.int .u8 k2,.slice A3 g2.length c3,.slice A4 u2.length c4] 87
 rw [World.size_alloc] at hB2
 obtain ⟨x0,x1,x2,x3,_⟩:=hB1.four
 obtain ⟨y0,y1,y2,y3,_⟩:=hB2.four
 clear hB1 hB2
 go_enter Tryz.func110,Tryz.ntmps110
 go_upto_region 1 with (fail)
 generalize (w.alloc (.cells #[.string n1,.int .u8 k1,.slice A1 g1.length c1,.slice A2 u1.length c2] 87)).alloc (.cells #[.string n2,.int .u8 k2,.slice A3 g2.length c3,.slice A4 u2.length c4] 87)=wa at *
 generalize w.heap.size=s at *
 by_cases hn:n1=n2
 ·have t0:(n1.toList==n2.toList)=true:=by rw [hn];simp
  by_cases hk:k1=k2
  ·have t1:(k1==k2)=true:=by rw [hk];simp
   have HE:Hid (decide (g1=g2∧u1=u2)=D):=Ac (by rw [←HD.out];simp [hn,hk])
   have HC1:=Ac (I7 wa _ _ g1 g2 (HA.out.more HGW.out) (HC.out.more HGW.out))
   clear hn hk
   generalize hx:decide (g1=g2)=X at *
   have HX:=Ac hx
   clear hx
   go_wp2_with fail
   refine HC1.out.mono ?_
   rintro e w1 ⟨rfl,hg1⟩
   cases X with
   | false =>
    have HF:Hid (D=false):=Ac (by rw [←HE.out,decide_eq_false_iff_not];exact fun h=>of_decide_eq_false HX.out h.1)
    go_wp2_with fail
    go_ret
    exact ⟨by rw [HF.out];rfl,Ae HGW.out hg1⟩
   | true =>
    have x3:=Aj hg1 x3 (by simp)
    have y3:=Aj hg1 y3 (by simp)
    have HC2:=Ac (I7 w1 _ _ u1 u2 (HB.out.more (Ae HGW.out hg1)) (HDD.out.more (Ae HGW.out hg1)))
    have HE2:Hid (decide (u1=u2)=D):=Ac (by rw [←HE.out];simp [of_decide_eq_true HX.out])
    rw [HE2.out] at HC2
    go_wp2_with fail
    refine HC2.out.mono ?_
    rintro e w2 ⟨rfl,hg2⟩
    go_wp2_with fail
    go_ret
    exact ⟨rfl,Ae HGW.out (Ae hg1 hg2)⟩
  ·have t1:(k1==k2)=false:=by rw [beq_eq_false_iff_ne];exact hk
   have HF:Hid (D=false):=Ac (by rw [←HD.out,decide_eq_false_iff_not];exact fun h=>hk h.2.1)
   clear hk hn
   go_wp2_with fail
   go_ret
   exact ⟨by rw [HF.out];rfl,HGW.out⟩
 ·have t0:(n1.toList==n2.toList)=false:=by rw [beq_eq_false_iff_ne];exact fun h=>hn (A20 h)
  have HF:Hid (D=false):=Ac (by rw [←HD.out,decide_eq_false_iff_not];exact fun h=>hn h.1)
  clear hn
  go_wp2_with fail
  go_ret
  exact ⟨by rw [HF.out];rfl,HGW.out⟩
end
end Go.Proofs.YtmfmfpmkgmkgiaaGreatDoor
