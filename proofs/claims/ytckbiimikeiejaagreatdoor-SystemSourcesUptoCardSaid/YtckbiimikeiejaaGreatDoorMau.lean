/- ModH ModG SamA ModI. -/
import Derived.Test.YtckbiimikeiejaaGreatDoorMai
import Derived.Test.YtckbiimikeiejaaGreatDoorMaq
import Derived.Deep.DeepCutAuto
import Derived.Test.YtckbiimikeiejaaGreatDoorMaj
import Derived.Test.YtckbiimikeiejaaGreatDoorMal
import Derived.Laws.StructEq
import Derived.Test.YtckbiimikeiejaaGreatDoorMat
set_option linter.unusedVariables false
set_option linter.unusedSimpArgs false
set_option maxHeartbeats 40000000
namespace Go.Proofs.YtckbiimikeiejaaGreatDoor
section
open Go.RowKit
set_option maxRecDepth 100000 in
theorem Mb (w:World) (s:ByteArray) (hs:s.size≤4611686018427387904) :
  Calls Tryz.prog 174 #[.string s] w fun e w'=>e=.returned (.bool (D9 s.data.toList))∧w.grownBy w' none:=by
 obtain ⟨D,hD⟩:∃ D,D9 s.data.toList=D:=⟨_,rfl⟩
 rw [hD]
 have HD:=Ac hD
 have hlen:s.data.toList.length=s.size:=rfl
 have HL:=Ac hlen
 have hu:=Tryz.underlying9
 have hix:∀ k:Nat,k<s.size→∀ W,(Instr.index 9 (.string s) (.int .i64 (k:Int))).run Tryz.prog W=.ok (.int .u8 ((s.data.toList.getD k 0).toNat:Int)) W:=by
  intro k hk W
  rw [run_index_string W 9 s .i64 (k:Int) hu,dif_pos ⟨by omega,by omega⟩]
  have e:s[(k:Int).toNat]'(by omega)=s.data.toList.getD k 0:=by
   simp only [Int.toNat_natCast]
   rw [List.getD_eq_getElem?_getD,List.getElem?_eq_getElem (by rw [HL.out];exact hk)]
   rfl
  rw [e]
 clear hD hlen
 generalize hn:s.size=n at *
 go_enter Tryz.func174,Tryz.ntmps174
 go_wp2_with fail
 go_loopw [3] (fun i wr=>∃ k:Nat,k≤n∧i=.int .i64 k∧wr=w∧Hid (∀ j,j<k→De (s.data.toList.getD j 0).toNat=true)) (fun i _=>(n-intOf i).toNat)
 case atStart=>exact ⟨0,by omega,rfl,rfl,Ac (fun j hj=>by omega)⟩
 case round =>
  obtain ⟨k,hk,rfl,rfl,hb⟩:=hrel
  by_cases hlt:k<n
  ·have hc:=hix k hlt
   have hc8:(s.data.toList.getD k 0).toNat<256:=(s.data.toList.getD k 0).toNat_lt
   clear hix
   generalize hx:(s.data.toList.getD k 0).toNat=x at *
   have HX:=Ac hx
   clear hx
   by_cases hnb:De x=true
   ·have HNB:=Ac hnb
    have hnb':(97≤x∧x≤122)∨(48≤x∧x≤57)∨x=95:=by simpa [De,or_assoc] using hnb
    clear hnb
    go_wp2
    all_goals first
     | exact ⟨⟨k+1,by omega,Bl (by omega),trivial,Ac (fun j hj=>by
       by_cases hjk:j=k
       ·subst hjk;rw [HX.out];exact HNB.out
       ·exact hb.out j (by omega))⟩,by simp [intOf];omega⟩
     | (exfalso;simp at *;omega)
   ·have hnb':¬ ((97≤x∧x≤122)∨(48≤x∧x≤57)∨x=95):=fun h=>hnb (by simpa [De,or_assoc] using h)
    have HF:Hid (D=false):=Ac (by
     have hf:(s.data.toList.all fun b=>De b.toNat)=false:=by
      rw [List.all_eq_false]
      have hkl:k<s.data.toList.length:=by rw [HL.out];exact hlt
      refine ⟨s.data.toList[k],List.getElem_mem _,?_⟩
      have:s.data.toList.getD k 0=s.data.toList[k]:=by simp only [List.getD,List.getElem?_eq_getElem hkl,Option.getD_some]
      rw [←this,HX.out]
      exact hnb
     rw [←HD.out];unfold D9;rw [hf,Bool.and_false])
    clear hnb
    go_wp2
    all_goals first
     | (go_ret;rw [HF.out];exact ⟨rfl,Al _ _⟩)
     | (exfalso;simp at *;omega)
  ·obtain rfl:k=n:=by omega
   have HT:Hid (D=(decide (1≤k)&&decide (k≤16))):=Ac (by
    have ht:(s.data.toList.all fun b=>De b.toNat)=true:=by
     rw [List.all_eq_true]
     intro b hbm
     obtain ⟨j,hj,rfl⟩:=List.mem_iff_getElem.1 hbm
     have:=hb.out j (by have:=HL.out;omega)
     rwa [show s.data.toList.getD j 0=s.data.toList[j] by simp only [List.getD,List.getElem?_eq_getElem hj,Option.getD_some]] at this
    rw [←HD.out];unfold D9;rw [ht,HL.out,Bool.and_true])
   clear hb
   go_wp2
   all_goals
    go_ret
    exact ⟨Ao (by rw [HT.out,Bool.eq_iff_iff];simp;try omega),Al _ _⟩
end
section
open Go.RowKit
open Rat
theorem RatB.new' {w0:World} {n:Nat} (h:w0.heap.size=n) (T:TypeId):RatB (w0.alloc (.cells #[.bool false,.slice none 0 0,.bool false,.slice none 0 0] T)) n 0:=by subst h;exact RatB.new _ _
theorem NumRow.at {w:World} {A:Option Addr} {n c:Nat} {l:List (Int × Int)} (h:NumRow w (.slice A n c) l) {i:Nat} (hi:i<l.length) :
  ∃ b o,A=some ⟨b,o,none⟩∧w.cell? ⟨b,o+i*2,none⟩=some (.int .i64 (l.getD i (0,0)).1)∧w.cell? ⟨b,o+i*2+1,none⟩=some (.int .i64 (l.getD i (0,0)).2):=by
 obtain ⟨A0,c0,he,_,_,_,h5⟩:=h
 injection he with e1
 subst e1
 obtain ⟨b,o,rfl,hc⟩:=h5 (by omega)
 exact ⟨b,o,rfl,hc i hi⟩
end
section
open Go.RowKit Go.Maps
theorem Yt (a b c d:Int) (w:World):(Op.equalIn 10000 25 (.agg #[.int .i64 a,.int .i64 b]) (.agg #[.int .i64 c,.int .i64 d])).run Tryz.prog w=.ok (a==c&&b==d) w:=by
 have u2:=Tryz.underlying2
 have u3:=Tryz.underlying3
 have a2:=Tryz.isAgg2
 have a3:=Tryz.isAgg3
 have z2:=Tryz.sizeOf2
 have z3:=Tryz.sizeOf3
 have hS:Tryz.prog.underlying 25=some (.struct (Tryz.prog.fieldsOf 25)):=by kernel_rfl
 have hp:Tryz.prog.stoodInHeld 25=false:=by kernel_rfl
 rw [show (10000:Nat)=9999+1 from rfl,run_equalIn_agg w 9999 25 _ _ hS hp]
 simp only [Program.fieldsOf,Tryz.underlying25]
 go_simp
 by_cases h1:a=c<;>by_cases h2:b=d<;>simp [h1,h2]
set_option maxRecDepth 100000 in
theorem Z3:Tryz.prog.eqGuardType Tryz.prog.depth 25=false:=by kernel_rfl
theorem A20 {a b:ByteArray} (h:a.toList=b.toList):a=b:=by
 rw [Lib.toList_data,Lib.toList_data] at h
 exact ByteArray.ext (Array.toList_inj.1 h)
theorem Ir {α:Type} {l1 l2:List α} {d:α} (hl:l1.length=l2.length) (h:∀ t,t<l1.length→l1.getD t d=l2.getD t d):l1=l2:=by
 refine List.ext_getElem hl fun i h1 h2=>?_
 have:=h i h1
 rwa [List.getD_eq_getElem?_getD,List.getD_eq_getElem?_getD,List.getElem?_eq_getElem h1,List.getElem?_eq_getElem h2] at this
theorem O1 {α:Type} {l1 l2:List α} {d:α} {k:Nat} (h:¬ l1.getD k d=l2.getD k d):¬ l1=l2:=fun e=>h (by rw [e])
set_option maxRecDepth 100000 in
theorem I7 (w:World) (v1 v2:Value) (l1 l2:List (Int × Int)) (hx:NumRow w v1 l1) (hy:NumRow w v2 l2) :
  Calls Tryz.prog 228 #[v1,v2] w fun e w'=>e=.returned (.bool (decide (l1=l2)))∧w.grownBy w' none:=by
 obtain ⟨D,hD⟩:∃ D,decide (l1=l2)=D:=⟨_,rfl⟩
 rw [hD]
 have HD:=Ac hD
 clear hD
 obtain ⟨A1,c1,rfl,m1⟩:=hx.ctor
 obtain ⟨A2,c2,rfl,m3⟩:=hy.ctor
 by_cases hl:l1.length=l2.length
 ·have t1:((l1.length:Int) != (l2.length:Int))=false:=by rw [hl];simp
  have HL:=Ac hl
  clear hl
  go_enter Tryz.func228,Tryz.ntmps228
  go_wp2_with fail
  go_loopw [5] (fun iv wr=>∃ k:Nat,k≤l1.length∧iv=.int .i64 k∧w.grownBy wr none∧Hid (∀ t,t<k→l1.getD t (0,0)=l2.getD t (0,0))) (fun iv _=>(l1.length-intOf iv).toNat)
  case atStart=>exact ⟨0,by omega,rfl,Al _ _,Ac (fun t ht=>by omega)⟩
  case round =>
   obtain ⟨k,hk,rfl,hg,hb⟩:=hrel
   by_cases hlt:k<l1.length
   ·obtain ⟨b1,o1,rfl,u1,u1'⟩:=(hx.more hg).at hlt
    obtain ⟨b2,o2,rfl,u2,u2'⟩:=(hy.more hg).at (i:=k) (by have:=HL.out;omega)
    have hk2:(k:Int)<(l2.length:Int):=by have:=HL.out;omega
    generalize h1:l1.getD k (0,0)=x at *
    generalize h2:l2.getD k (0,0)=y at *
    have HX:=Ac h1
    have HY:=Ac h2
    have HG:=Ac hg
    clear hg h1 h2
    obtain ⟨x1,x2⟩:=x
    obtain ⟨y1,y2⟩:=y
    simp only at u1 u1' u2 u2'
    have eqn:=fun W=>Yt x1 x2 y1 y2 W
    have gdn:=Z3
    by_cases hxy:(x1,x2)=(y1,y2)
    ·have hb2:(x1==y1&&x2==y2)=true:=by injection hxy with e1 e2;rw [e1,e2];simp
     rw [hb2] at eqn
     have HE:=Ac hxy
     clear hxy hb2
     go_wp2_with fail
     go_quiet (fail)
     go_wp2_with fail
     exact ⟨⟨k+1,by omega,by go_num,Ae HG.out (Az _ _ _),Ac (fun t ht=>by
      by_cases htk:t=k
      ·subst htk;rw [HX.out,HY.out];exact HE.out
      ·exact hb.out t (by omega))⟩,by simp [intOf];omega⟩
    ·have hb2:(x1==y1&&x2==y2)=false:=by
      rw [Bool.and_eq_false_iff,beq_eq_false_iff_ne,beq_eq_false_iff_ne]
      by_cases e1:x1=y1
      ·exact .inr fun e2=>hxy (by rw [e1,e2])
      ·exact .inl e1
     rw [hb2] at eqn
     have HF:Hid (D=false):=Ac (by rw [←HD.out,decide_eq_false_iff_not];exact O1 (d:=(0,0)) (k:=k) (by rw [HX.out,HY.out];exact hxy))
     clear hxy hb2
     go_wp2_with fail
     go_quiet (fail)
     go_wp2_with fail
     go_ret
     exact ⟨by rw [HF.out];rfl,Ae HG.out (Az _ _ _)⟩
   ·have hkk:k=l1.length:=by omega
    have HT:Hid (D=true):=Ac (by rw [←HD.out,decide_eq_true_iff];exact Ir HL.out fun t ht=>hb.out t (by omega))
    have hge:¬ (k:Int)<(l1.length:Int):=by omega
    clear hkk
    go_wp2_with fail
    go_ret
    exact ⟨by rw [HT.out];rfl,hg⟩
 ·have t1:((l1.length:Int) != (l2.length:Int))=true:=by rw [bne_iff_ne];omega
  have HF:Hid (D=false):=Ac (by rw [←HD.out,decide_eq_false_iff_not];exact fun e=>hl (by rw [e]))
  clear hl
  go_enter Tryz.func228,Tryz.ntmps228
  go_wp2_with fail
  go_ret
  exact ⟨by rw [HF.out];rfl,Al _ _⟩
set_option maxRecDepth 100000 in
theorem I8 (w:World) (k1 k2:Int) (va sa vb sb:Value) (v1 v2:List (Int × Int)) (s1 s2:List Int) (ha:NumRow w va v1) (hb:IntRow w sa s1) (hc:NumRow w vb v2) (hd:IntRow w sb s2) :
  Calls Tryz.prog 148 #[.agg #[.int .i64 k1,va,sa],.agg #[.int .i64 k2,vb,sb]] w fun e w'=>e=.returned (.bool (decide (k1=k2∧s1=s2∧v1=v2)))∧w.grownBy w' none:=by
 obtain ⟨D,hD⟩:∃ D,decide (k1=k2∧s1=s2∧v1=v2)=D:=⟨_,rfl⟩
 rw [hD]
 have HD:=Ac hD
 clear hD
 have HA:=Ac ha
 have HB:=Ac hb
 have HC:=Ac hc
 have HDD:=Ac hd
 obtain ⟨A1,c1,rfl,m1⟩:=ha.ctor
 obtain ⟨A2,c2,rfl,m2,m2'⟩:=hb.ctor
 obtain ⟨A3,c3,rfl,m3⟩:=hc.ctor
 obtain ⟨A4,c4,rfl,m4,m4'⟩:=hd.ctor
 generalize hl1:v1.length=lv1 at *
 generalize hl2:v2.length=lv2 at *
 generalize hl3:s1.length=ls1 at *
 generalize hl4:s2.length=ls2 at *
 have H3:=Ac hl3
 have H4:=Ac hl4
 clear hl1 hl2 hl3 hl4 ha hb hc hd
 have HGW:=Ac (Ae (Af w (.cells #[.int .i64 k1,.slice A1 lv1 c1,.slice A2 ls1 c2] 85) none) (Af _ (.cells #[.int .i64 k2,.slice A3 lv2 c3,.slice A4 ls2 c4] 85) none))
 have hB1:=(Blk.new w #[.int .i64 k1,.slice A1 lv1 c1,.slice A2 ls1 c2] 85).more (Af _ (.cells #[.int .i64 k2,.slice A3 lv2 c3,.slice A4 ls2 c4] 85) none)
 have hB2:=Blk.new (w.alloc (.cells #[.int .i64 k1,.slice A1 lv1 c1,.slice A2 ls1 c2] 85)) #[.int .i64 k2,.slice A3 lv2 c3,.slice A4 ls2 c4] 85
 rw [World.size_alloc] at hB2
 obtain ⟨x0,x1,x2⟩:=hB1.three
 obtain ⟨y0,y1,y2⟩:=hB2.three
 clear hB1 hB2
 go_enter Tryz.func148,Tryz.ntmps148
 go_upto_region 1 with (fail)
 generalize (w.alloc (.cells #[.int .i64 k1,.slice A1 lv1 c1,.slice A2 ls1 c2] 85)).alloc (.cells #[.int .i64 k2,.slice A3 lv2 c3,.slice A4 ls2 c4] 85)=wa at *
 generalize w.heap.size=s at *
 by_cases hk:k1=k2
 ·have t0:(k1 != k2)=false:=by rw [bne_eq_false_iff_eq];exact hk
  have HK:=Ac hk
  clear hk
  by_cases hl:ls1=ls2
  ·have t1:((ls1:Int) != (ls2:Int))=false:=by rw [hl];simp
   have HL:=Ac hl
   clear hl
   go_wp2_with fail
   go_loopw [5] (fun iv wr=>∃ k:Nat,k≤ls1∧iv=.int .i64 k∧wa.grownBy wr none∧Hid (∀ t,t<k→s1.getD t 0=s2.getD t 0)) (fun iv _=>(ls1-intOf iv).toNat)
   case atStart=>exact ⟨0,by omega,rfl,Al _ _,Ac (fun t ht=>by omega)⟩
   case round =>
    obtain ⟨k,hk,rfl,hg,hb⟩:=hrel
    have x1:=Aj hg x1 (by simp)
    have x2:=Aj hg x2 (by simp)
    have y1:=Aj hg y1 (by simp)
    have y2:=Aj hg y2 (by simp)
    by_cases hlt:k<ls1
    ·obtain ⟨b1,o1,rfl,_,u1⟩:=(HB.out.more (Ae HGW.out hg)).at (i:=k) (by have:=H3.out;omega)
     obtain ⟨b2,o2,rfl,_,u2⟩:=(HDD.out.more (Ae HGW.out hg)).at (i:=k) (by have:=H4.out;have:=HL.out;omega)
     have hk2:(k:Int)<(ls2:Int):=by have:=HL.out;omega
     generalize h1:s1.getD k 0=x at *
     generalize h2:s2.getD k 0=y at *
     have HX:=Ac h1
     have HY:=Ac h2
     have HG:=Ac hg
     clear hg h1 h2
     by_cases hxy:x=y
     ·have t2:(x != y)=false:=by rw [hxy];simp
      have HE:=Ac hxy
      clear hxy
      go_wp2_with fail
      go_quiet (fail)
      go_wp2_with fail
      exact ⟨⟨k+1,by omega,by go_num,Ae HG.out (Az _ _ _),Ac (fun t ht=>by
       by_cases htk:t=k
       ·subst htk;rw [HX.out,HY.out];exact HE.out
       ·exact hb.out t (by omega))⟩,by simp [intOf];omega⟩
     ·have t2:(x != y)=true:=by rw [bne_iff_ne];exact hxy
      have HF:Hid (D=false):=Ac (by rw [←HD.out,decide_eq_false_iff_not];exact fun h=>O1 (d:=0) (k:=k) (by rw [HX.out,HY.out];exact hxy) h.2.1)
      clear hxy
      go_wp2_with fail
      go_quiet (fail)
      go_wp2_with fail
      go_ret
      exact ⟨by rw [HF.out];rfl,Ae HGW.out (Ae HG.out (Az _ _ _))⟩
    ·have HS:Hid (s1=s2):=Ac (Ir (by rw [H3.out,H4.out];exact HL.out) fun t ht=>hb.out t (by have:=H3.out;omega))
     have HT:Hid (decide (v1=v2)=D):=Ac (by rw [←HD.out];simp [HK.out,HS.out])
     have hge:¬ (k:Int)<(ls1:Int):=by omega
     have HCC:=Ac (I7 wr _ _ v1 v2 (HA.out.more (Ae HGW.out hg)) (HC.out.more (Ae HGW.out hg)))
     rw [HT.out] at HCC
     have HG:=Ac hg
     clear hg hb
     go_wp2_with fail
     refine HCC.out.mono ?_
     rintro e w5 ⟨rfl,hg5⟩
     go_wp2_with fail
     go_ret
     exact ⟨rfl,Ae HGW.out (Ae HG.out hg5)⟩
  ·have t1:((ls1:Int) != (ls2:Int))=true:=by rw [bne_iff_ne];omega
   have HF:Hid (D=false):=Ac (by rw [←HD.out,decide_eq_false_iff_not];exact fun e=>hl (by rw [←H3.out,←H4.out,e.2.1]))
   clear hl
   go_wp2_with fail
   go_ret
   exact ⟨by rw [HF.out];rfl,HGW.out⟩
 ·have t0:(k1 != k2)=true:=by rw [bne_iff_ne];exact hk
  have HF:Hid (D=false):=Ac (by rw [←HD.out,decide_eq_false_iff_not];exact fun e=>hk e.1)
  clear hk
  go_wp2_with fail
  go_ret
  exact ⟨by rw [HF.out];rfl,HGW.out⟩
set_option maxRecDepth 100000 in
theorem I6 (w:World) (n1 n2:ByteArray) (k1 k2:Int) (va sa vb sb:Value) (g1 g2 u1 u2:List (Int × Int)) (ha:NumRow w va g1) (hb:NumRow w sa u1) (hc:NumRow w vb g2) (hd:NumRow w sb u2) :
  Calls Tryz.prog 149 #[.agg #[.string n1,.int .u8 k1,va,sa],.agg #[.string n2,.int .u8 k2,vb,sb]] w fun e w'=>e=.returned (.bool (decide (n1=n2∧k1=k2∧g1=g2∧u1=u2)))∧w.grownBy w' none:=by
 obtain ⟨D,hD⟩:∃ D,decide (n1=n2∧k1=k2∧g1=g2∧u1=u2)=D:=⟨_,rfl⟩
 rw [hD]
 have HD:=Ac hD
 clear hD
 have HA:=Ac ha
 have HB:=Ac hb
 have HC:=Ac hc
 have HDD:=Ac hd
 obtain ⟨A1,c1,rfl,m1⟩:=ha.ctor
 obtain ⟨A2,c2,rfl,m2⟩:=hb.ctor
 obtain ⟨A3,c3,rfl,m3⟩:=hc.ctor
 obtain ⟨A4,c4,rfl,m4⟩:=hd.ctor
 clear ha hb hc hd
 have HGW:=Ac (Ae (Af w (.cells #[.string n1,.int .u8 k1,.slice A1 g1.length c1,.slice A2 u1.length c2] 87) none) (Af _ (.cells #[.string n2,.int .u8 k2,.slice A3 g2.length c3,.slice A4 u2.length c4] 87) none))
 have hB1:=(Blk.new w #[.string n1,.int .u8 k1,.slice A1 g1.length c1,.slice A2 u1.length c2] 87).more (Af _ (.cells #[.string n2,.int .u8 k2,.slice A3 g2.length c3,.slice A4 u2.length c4] 87) none)
 have hB2:=Blk.new (w.alloc (.cells #[.string n1,.int .u8 k1,.slice A1 g1.length c1,.slice A2 u1.length c2] 87)) #[.string n2,.int .u8 k2,.slice A3 g2.length c3,.slice A4 u2.length c4] 87
 rw [World.size_alloc] at hB2
 obtain ⟨x0,x1,x2,x3,_⟩:=hB1.four
 obtain ⟨y0,y1,y2,y3,_⟩:=hB2.four
 clear hB1 hB2
 go_enter Tryz.func149,Tryz.ntmps149
 go_upto_region 1 with (fail)
 generalize (w.alloc (.cells #[.string n1,.int .u8 k1,.slice A1 g1.length c1,.slice A2 u1.length c2] 87)).alloc (.cells #[.string n2,.int .u8 k2,.slice A3 g2.length c3,.slice A4 u2.length c4] 87)=wa at *
 generalize w.heap.size=s at *
 by_cases hn:n1=n2
 ·have t0:(n1.toList==n2.toList)=true:=by rw [hn];simp
  by_cases hk:k1=k2
  ·have t1:(k1==k2)=true:=by rw [hk];simp
   have HE:Hid (decide (g1=g2∧u1=u2)=D):=Ac (by rw [←HD.out];simp [hn,hk])
   have HC1:=Ac (I7 wa _ _ g1 g2 (HA.out.more HGW.out) (HC.out.more HGW.out))
   clear hn hk
   generalize hx:decide (g1=g2)=X at *
   have HX:=Ac hx
   clear hx
   go_wp2_with fail
   refine HC1.out.mono ?_
   rintro e w1 ⟨rfl,hg1⟩
   cases X with
   | false =>
    have HF:Hid (D=false):=Ac (by rw [←HE.out,decide_eq_false_iff_not];exact fun h=>of_decide_eq_false HX.out h.1)
    go_wp2_with fail
    go_ret
    exact ⟨by rw [HF.out];rfl,Ae HGW.out hg1⟩
   | true =>
    have x3:=Aj hg1 x3 (by simp)
    have y3:=Aj hg1 y3 (by simp)
    have HC2:=Ac (I7 w1 _ _ u1 u2 (HB.out.more (Ae HGW.out hg1)) (HDD.out.more (Ae HGW.out hg1)))
    have HE2:Hid (decide (u1=u2)=D):=Ac (by rw [←HE.out];simp [of_decide_eq_true HX.out])
    rw [HE2.out] at HC2
    go_wp2_with fail
    refine HC2.out.mono ?_
    rintro e w2 ⟨rfl,hg2⟩
    go_wp2_with fail
    go_ret
    exact ⟨rfl,Ae HGW.out (Ae hg1 hg2)⟩
  ·have t1:(k1==k2)=false:=by rw [beq_eq_false_iff_ne];exact hk
   have HF:Hid (D=false):=Ac (by rw [←HD.out,decide_eq_false_iff_not];exact fun h=>hk h.2.1)
   clear hk hn
   go_wp2_with fail
   go_ret
   exact ⟨by rw [HF.out];rfl,HGW.out⟩
 ·have t0:(n1.toList==n2.toList)=false:=by rw [beq_eq_false_iff_ne];exact fun h=>hn (A20 h)
  have HF:Hid (D=false):=Ac (by rw [←HD.out,decide_eq_false_iff_not];exact fun h=>hn h.1)
  clear hn
  go_wp2_with fail
  go_ret
  exact ⟨by rw [HF.out];rfl,HGW.out⟩
end
section
open Go.RowKit
open Rat
theorem L16.num {m e:Int} (h:NumOK m e):L16 (numQ m e) 8:=by
 have hb:=h.bounds
 have hm:(d16 m).length≤4:=by unfold d16;refine (Bz 65536 (by omega) _ _).2 ?_;omega
 have hp:=Lt (j:=e.natAbs) (by omega)
 unfold numQ
 split
 ·exact L16.divInt (Int.pow_ne_zero (by omega)) (by omega) (by omega)
 ·exact L16.divInt (by omega) (by have:=Hl ((10:Int) ^ e.natAbs) m;omega) (by decide +kernel)
set_option maxRecDepth 100000 in
theorem Jt (w:World) (nm:ByteArray) (kind:Int) (vg vv:Value) (gs vs:List (Int × Int)) (hnm:nm.size≤4611686018427387904) (hk1:0≤kind) (hk2:kind≤255) (hg:NumRow w vg gs) (hv:NumRow w vv vs) (hl2:vs.length≤4611686018427387904) :
    Calls Tryz.prog 173 #[.agg #[.string nm,.int .u8 kind,vg,vv]] w fun e w'=>e=.returned (.bool (Bk nm.data.toList kind gs vs))∧w.grownBy w' none:=by
  obtain ⟨D,hD⟩:∃ D,Bk nm.data.toList kind gs vs=D:=⟨_,rfl⟩
  rw [hD]
  have HD:=Ac hD
  clear hD
  have HGI:=Ac hg.i64
  have HVI:=Ac hv.i64
  have HG:=Ac hg
  have HV:=Ac hv
  obtain ⟨A1,c1,rfl,m1,m1'⟩:=hg.ctor
  obtain ⟨A2,c2,rfl,m2,m2'⟩:=hv.ctor
  have HGW:=Ac (Af w (.cells #[.string nm,.int .u8 kind,.slice A1 gs.length c1,.slice A2 vs.length c2] 87) none)
  have hB:=Blk.new w #[.string nm,.int .u8 kind,.slice A1 gs.length c1,.slice A2 vs.length c2] 87
  obtain ⟨x0,x1,x2,x3,_⟩:=hB.four
  clear hB hg hv
  go_enter Tryz.func173,Tryz.ntmps173
  go_wp2_with fail
  generalize w.alloc (.cells #[.string nm,.int .u8 kind,.slice A1 gs.length c1,.slice A2 vs.length c2] 87)=wa at *
  generalize w.heap.size=s at *
  refine (Mb wa nm hnm).mono ?_
  rintro e w1 ⟨rfl,hw1⟩
  obtain ⟨N,hN⟩:∃ N,D9 nm.data.toList=N:=⟨_,rfl⟩
  rw [hN]
  have HGW:=Ac (Ae HGW.out hw1)
  have x1:=Aj hw1 x1 (by simp)
  have x2:=Aj hw1 x2 (by simp)
  have x3:=Aj hw1 x3 (by simp)
  clear hw1 x0
  cases N with
  | false =>
    have HF:Hid (D=false):=Ac (by rw [←HD.out];simp [Bk,hN])
    clear hN
    go_wp2_with fail
    go_ret
    exact ⟨by rw [HF.out];rfl,HGW.out⟩
  | true =>
    have HN:=Ac hN
    clear hN
    go_wp2_with fail
    go_loopw [3] (fun i wr=>∃ k:Nat,k≤gs.length∧i=.int .i64 k∧w1.grownBy wr none∧Hid (∀ t,t<k→Bu (gs.getD t (0,0))=true)) (fun i _=>(gs.length-intOf i).toNat)
    case atStart=>exact ⟨0,by omega,rfl,Al _ _,Ac (fun t ht=>by omega)⟩
    case round =>
      obtain ⟨k,hk,rfl,hgr,hb⟩:=hrel
      have y1:=Aj hgr x1 (by simp)
      have y2:=Aj hgr x2 (by simp)
      have y3:=Aj hgr x3 (by simp)
      by_cases hlt:k<gs.length
      · obtain ⟨b,o,rfl,q0,q1⟩:=(HG.out.more (Ae HGW.out hgr)).at hlt
        obtain ⟨⟨u1,u2⟩,u3,u4⟩:=HGI.out k
        generalize hp:gs.getD k (0,0)=p at *
        have HP:=Ac hp
        clear hp
        obtain ⟨m,e⟩:=p
        simp only at q0 q1 u1 u2 u3 u4
        have HC:=Ac (Df wr m e u1 u2 u3 u4)
        obtain ⟨X,hX⟩:∃ X,decide (NumOK m e)=X:=⟨_,rfl⟩
        rw [hX] at HC
        have HX:=Ac hX
        have HGR:=Ac hgr
        clear hX hgr
        go_wp2_with fail
        refine HC.out.mono ?_
        rintro e' w3 ⟨rfl,hg3⟩
        cases X with
        | false =>
          have HF:Hid (D=false):=Ac (by rw [←HD.out];exact Nx (F8 hlt (by rw [HP.out];exact HX.out)))
          go_wp2_with fail
          go_ret
          exact ⟨by rw [HF.out];rfl,Ae HGW.out (Ae HGR.out hg3)⟩
        | true =>
          go_wp2_with fail
          exact ⟨⟨k+1,by omega,Bl (by omega),Ae HGR.out hg3,Ac (fun t ht=>by
            by_cases htk:t=k
            · subst htk;rw [HP.out];exact HX.out
            · exact hb.out t (by omega))⟩,by simp [intOf];omega⟩
      · obtain rfl:k=gs.length:=by omega
        have HA:Hid (gs.all Bu=true):=Ac (Ez hb.out)
        have HG1:=Ac (Ae HGW.out hgr)
        clear hb hgr x1 x2 x3
        obtain ⟨wo,rfl⟩:∃ wo:World,wo=wr:=⟨_,rfl⟩
        go_wp2_with fail
        go_loopw [4] (fun i wr=>∃ k:Nat,k≤vs.length∧i=.int .i64 k∧wo.grownBy wr none∧Hid ((∀ t,t<k→Bu (vs.getD t (0,0))=true)∧(kind=100→∀ t,t<k→1≤t→pQ (vs.getD (t-1) (0,0))<pQ (vs.getD t (0,0))))) (fun i _=>(vs.length-intOf i).toNat)
        case atStart=>exact ⟨0,by omega,rfl,Al _ _,Ac ⟨fun t ht=>by omega,fun _ t ht=>by omega⟩⟩
        case round =>
          obtain ⟨k,hk,rfl,hgr,hb⟩:=hrel
          have z1:=Aj hgr y1 (by simp)
          have z2:=Aj hgr y2 (by simp)
          have z3:=Aj hgr y3 (by simp)
          by_cases hlt:k<vs.length
          · obtain ⟨b,o,rfl,q0,q1⟩:=(HV.out.more (Ae HG1.out hgr)).at hlt
            obtain ⟨⟨u1,u2⟩,u3,u4⟩:=HVI.out k
            generalize hp:vs.getD k (0,0)=p at *
            have HP:=Ac hp
            clear hp
            obtain ⟨m,e⟩:=p
            simp only at q0 q1 u1 u2 u3 u4
            have HC:=Ac (Df wr m e u1 u2 u3 u4)
            obtain ⟨X,hX⟩:∃ X,decide (NumOK m e)=X:=⟨_,rfl⟩
            rw [hX] at HC
            have HX:=Ac hX
            have HGR:=Ac hgr
            clear hX hgr
            go_wp2_with fail
            refine HC.out.mono ?_
            rintro e' w3 ⟨rfl,hg3⟩
            cases X with
            | false =>
              have HF:Hid (D=false):=Ac (by rw [←HD.out];exact Ny (F8 hlt (by rw [HP.out];exact HX.out)))
              go_wp2_with fail
              go_ret
              exact ⟨by rw [HF.out];rfl,Ae HG1.out (Ae HGR.out hg3)⟩
            | true =>
              have HB:Hid (∀ t,t<k+1→Bu (vs.getD t (0,0))=true):=Ac (fun t ht=>by
                by_cases htk:t=k
                · subst htk;rw [HP.out];exact HX.out
                · exact hb.out.1 t (by omega))
              have HG3:=Ac (Ae HGR.out hg3)
              have z1:=Aj hg3 z1 (by simp)
              have z3:=Aj hg3 z3 (by simp)
              have q0:=Aj hg3 q0 (by simp)
              have q1:=Aj hg3 q1 (by simp)
              clear hg3 y1 y2 y3
              by_cases h100:kind=100
              · subst h100
                by_cases hk0:k=0
                · as_aux_lemma =>
                    subst hk0
                    have t0:decide ((0:Int)<((0:Nat):Int))=false:=by simp
                    go_wp2_with fail
                    go_quiet (fail)
                    go_wp2_with fail
                    exact ⟨⟨1,by omega,Bl (by omega),Ae HG3.out (Az _ _ _),Ac ⟨HB.out,fun _ t ht=>by omega⟩⟩,by simp [intOf];omega⟩
                · as_aux_lemma =>
                    obtain ⟨j,rfl⟩:∃ j,k=j+1:=⟨k-1,by omega⟩
                    obtain ⟨b',o',e',q2,q3⟩:=(HV.out.more (Ae HG1.out HG3.out)).at (i:=j) (by omega)
                    injection e' with e';injection e' with e1 e2 _;subst e1 e2
                    generalize hp2:vs.getD j (0,0)=p2 at *
                    have HP2:=Ac hp2
                    clear hp2
                    obtain ⟨mm,ee⟩:=p2
                    simp only at q2 q3
                    have HX2:Hid (NumOK mm ee):=Ac (by have:=HB.out j (by omega);rw [HP2.out] at this;exact of_decide_eq_true this)
                    have HX1:Hid (NumOK m e):=Ac (of_decide_eq_true HX.out)
                    have t0:decide (0<(j:Int)+1)=true:=by rw [decide_eq_true_iff];omega
                    have e1':IntKind.i64.wrap ((j:Int)+1-1)=(j:Int):=by rw [show (j:Int)+1-1=j by omega];exact IntWalk.i64_in _ (by omega)
                    have e1'':IntKind.i64.wrap (j:Int)=(j:Int):=IntWalk.i64_in _ (by omega)
                    have e6:IntKind.i64.wrap ((j:Int)+1)=(j:Int)+1:=IntWalk.i64_in _ (by omega)
                    have e7:(0:Int)≤(j:Int):=by omega
                    have e2':((j:Int)+1).toNat=j+1:=by omega
                    have e3:(j:Int)+1<(vs.length:Int):=by omega
                    have e4:(j:Int)<(vs.length:Int):=by omega
                    have e5:(0:Int)≤(j:Int)+1:=by omega
                    have hR:¬ 0≤cmpQ (numQ mm ee) (numQ m e)↔pQ (vs.getD j (0,0))<pQ (vs.getD (j+1) (0,0)):=by
                      rw [HP.out,HP2.out]
                      unfold cmpQ pQ
                      by_cases hpq:numQ mm ee<numQ m e
                      · simp [hpq]
                      · by_cases heq:numQ mm ee=numQ m e<;>simp [hpq,heq]
                    have HR:=Ac hR
                    clear hR hk0 z2
                    obtain ⟨R,hRR⟩:∃ R,cmpQ (numQ mm ee) (numQ m e)=R:=⟨_,rfl⟩
                    have HRR:=Ac hRR
                    clear hRR
                    rw [HRR.out] at HR
                    have HK:=Ac (fun w' (h:w3.grownBy w' none)=>(⟨Aj h z1 (by simp),Aj h z3 (by simp),Aj h q0 (by simp),Aj h q1 (by simp),Aj h q2 (by simp),Aj h q3 (by simp)⟩:w'.cell? ⟨s,1,none⟩=some (.int .u8 100)∧w'.cell? ⟨s,3,none⟩=some (.slice (some ⟨b,o,none⟩) vs.length c2)∧w'.cell? ⟨b,o+(j+1)*2,none⟩=some (.int .i64 m)∧w'.cell? ⟨b,o+(j+1)*2+1,none⟩=some (.int .i64 e)∧w'.cell? ⟨b,o+j*2,none⟩=some (.int .i64 mm)∧w'.cell? ⟨b,o+j*2+1,none⟩=some (.int .i64 ee)))
                    go_wp2_with fail
                    go_region_held3 (fun w'=>w'.cell? ⟨s,1,none⟩=some (.int .u8 100)∧w'.cell? ⟨s,3,none⟩=some (.slice (some ⟨b,o,none⟩) vs.length c2)∧w'.cell? ⟨b,o+(j+1)*2,none⟩=some (.int .i64 m)∧w'.cell? ⟨b,o+(j+1)*2+1,none⟩=some (.int .i64 e)∧w'.cell? ⟨b,o+j*2,none⟩=some (.int .i64 mm)∧w'.cell? ⟨b,o+j*2+1,none⟩=some (.int .i64 ee)) ((refine HK.out _ ?_;(focus ((repeat (first | assumption | exact Al _ _ | exact Ai _ _ | exact Af _ _ _ | refine Ae ?_ (Af _ _ _) | refine Ae ?_ (Ai _ _) | refine Ae ?_ (by assumption)));done))))
                      (first
                      | (go_at_call_of 120 (Value.agg #[.int .i64 mm,.int .i64 ee]);refine (N7 _ mm ee HX2.out).mono ?_;rintro o5 w5 ⟨v5,rfl,hv5,hg5⟩)
                      | (go_at_call_of 120 (Value.agg #[.int .i64 m,.int .i64 e]);refine (N7 _ m e HX1.out).mono ?_;rintro o6 w6 ⟨v6,rfl,hv6,hg6⟩)
                      | (go_at_call 129;refine (Rg _ _ _ (numQ mm ee) (numQ m e) (hv5.more (by (focus ((repeat (first | assumption | exact Al _ _ | exact Ai _ _ | exact Af _ _ _ | refine Ae ?_ (Af _ _ _) | refine Ae ?_ (Ai _ _) | refine Ae ?_ (by assumption)));done)))) (hv6.more (by (focus ((repeat (first | assumption | exact Al _ _ | exact Ai _ _ | exact Af _ _ _ | refine Ae ?_ (Af _ _ _) | refine Ae ?_ (Ai _ _) | refine Ae ?_ (by assumption)));done)))) 8 (L16.num HX2.out) (L16.num HX1.out) (by omega)).mono ?_;rw [HRR.out];rintro o7 w7 ⟨rfl,hg7⟩))
                    all_goals
                      have HG7:=Ac (Ae HG3.out (show w3.grownBy w7 none by (focus ((repeat (first | assumption | exact Al _ _ | exact Ai _ _ | exact Af _ _ _ | refine Ae ?_ (Af _ _ _) | refine Ae ?_ (Ai _ _) | refine Ae ?_ (by assumption)));done))))
                      by_cases hR0:0≤R
                      · have HF:Hid (D=false):=Ac (by
                          have hno:¬ pQ (vs.getD j (0,0))<pQ (vs.getD (j+1) (0,0)):=fun h=>by have:=HR.out.2 h;omega
                          rw [←HD.out]
                          unfold Bk
                          rw [if_neg (by decide),if_pos rfl]
                          have:decide (∀ i,i<vs.length→1≤i→pQ (vs.getD (i-1) (0,0))<pQ (vs.getD i (0,0)))=false:=by
                            rw [decide_eq_false_iff_not]
                            intro h
                            exact hno (h (j+1) (by omega) (by omega))
                          rw [this];simp)
                        go_wp2_with fail
                        go_ret
                        exact ⟨by rw [HF.out];rfl,Ae HG1.out HG7.out⟩
                      · go_wp2_with fail
                        exact ⟨⟨j+1+1,by omega,Bl (by omega),HG7.out,Ac ⟨HB.out,fun _ t ht h1=>by
                          by_cases htk:t=j+1
                          · subst htk;exact HR.out.1 (by omega)
                          · exact hb.out.2 trivial t (by omega) h1⟩⟩,by simp [intOf];omega⟩
              · as_aux_lemma =>
                  have t0:(kind==100)=false:=by rw [beq_eq_false_iff_ne];exact h100
                  have HN100:=Ac h100
                  clear h100
                  go_wp2_with fail
                  go_quiet (fail)
                  go_wp2_with fail
                  exact ⟨⟨k+1,by omega,Bl (by omega),Ae HG3.out (Az _ _ _),Ac ⟨HB.out,fun h=>absurd h HN100.out⟩⟩,by simp [intOf];omega⟩
          · obtain rfl:k=vs.length:=by omega
            have HAV:Hid (vs.all Bu=true):=Ac (Ez hb.out.1)
            have HOR:=Ac hb.out.2
            have HG2:=Ac (Ae HG1.out hgr)
            have hM:D=(if kind=115 then decide (gs.length=2)&&decide (vs.length=1)
     else if kind=100 then decide (1≤gs.length)&&decide (gs.length≤4)&&decide (vs.length+1=gs.length)&&decide (∀ i,i<vs.length→1≤i→pQ (vs.getD (i-1) (0,0))<pQ (vs.getD i (0,0)))
     else false):=by rw [←HD.out];unfold Bk;rw [HN.out,HA.out,HAV.out];simp
            clear hb hgr y1 y2 y3
            by_cases h115:kind=115
            · as_aux_lemma =>
                rw [if_pos h115] at hM
                have HM:=Ac hM
                subst h115
                clear hM
                generalize gs.length=lg at *
                generalize vs.length=lv at *
                go_wp2_with fail
                all_goals
                  go_ret
                  exact ⟨Ao (by rw [HM.out,Bool.eq_iff_iff];simp;try omega),HG2.out⟩
            have t115:(kind==115)=false:=by rw [beq_eq_false_iff_ne];exact h115
            rw [if_neg h115] at hM
            by_cases h100:kind=100
            · as_aux_lemma =>
                rw [if_pos h100,decide_eq_true (HOR.out h100),Bool.and_true] at hM
                have HM:=Ac hM
                subst h100
                clear hM h115
                generalize gs.length=lg at *
                generalize vs.length=lv at *
                go_wp2_with fail
                all_goals
                  go_ret
                  exact ⟨Ao (by rw [HM.out,Bool.eq_iff_iff];simp;try omega),HG2.out⟩
            · as_aux_lemma =>
                rw [if_neg h100] at hM
                have HM:=Ac hM
                have t100:(kind==100)=false:=by rw [beq_eq_false_iff_ne];exact h100
                clear hM h115 h100
                go_wp2_with fail
                go_ret
                exact ⟨by rw [HM.out];rfl,HG2.out⟩
end
end Go.Proofs.YtckbiimikeiejaaGreatDoor
