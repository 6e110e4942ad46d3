/- SamB ScriB. -/
import Derived.Test.YtmfmfpmkgmkgiaaGreatDoorMbe
import Derived.Test.YtmfmfpmkgmkgiaaGreatDoorMah
import Derived.OrdersHeld
import Derived.RegionTactic
import Derived.Lib.Hide
set_option linter.unusedVariables false
set_option linter.unusedSimpArgs false
set_option maxHeartbeats 40000000
namespace Go.Proofs.YtmfmfpmkgmkgiaaGreatDoor
section
open Go.RowKit Go.Maps
theorem Fk (w:World) (v1 v2:Value) (l:List CellP) (hx:CellRow w v1 l) (hy:CellRow w v2 l) :
    Calls Tryz.prog 108 #[v1,v2] w fun e w'=>e=.returned (.bool true)∧w.grownBy w' none:=by
  obtain ⟨A1,c1,rfl,m1,m1'⟩:=hx.ctor
  obtain ⟨A2,c2,rfl,_⟩:=hy.ctor
  have hl:l.length≤9223372036854775807:=by omega
  clear m1 m1'
  have t1:((l.length:Int) != (l.length:Int))=false:=by simp
  go_enter Tryz.func108,Tryz.ntmps108
  go_wp2_with fail
  go_loopw [5] (fun iv wr=>∃ k:Nat,k≤l.length∧iv=.int .i64 k∧w.grownBy wr none) (fun iv _=>(l.length-intOf iv).toNat)
  case atStart=>exact ⟨0,by omega,rfl,Al _ _⟩
  case round =>
    obtain ⟨k,hk,rfl,hg⟩:=hrel
    by_cases hlt:k<l.length
    · obtain ⟨b1,o1,A1',n1,c1',rfl,_,x0,x1,x2,hn1⟩:=(hx.more hg).at hlt
      obtain ⟨b2,o2,A2',n2,c2',rfl,_,y0,y1,y2,hn2⟩:=(hy.more hg).at hlt
      generalize l.getD k Br=x at *
      obtain ⟨col,neg,limbs⟩:=x
      simp only at x0 x1 x2 y0 y1 y2 hn1 hn2
      have HN1:=Ac hn1
      have HN2:=Ac hn2
      have HG:=Ac hg
      have X0:=fun p=>B8 x0 p
      have X1:=fun p=>B8 x1 p
      have X2:=fun p=>B8 x2 p
      have Y0:=fun p=>B8 y0 p
      have Y1:=fun p=>B8 y1 p
      have Y2:=fun p=>B8 y2 p
      have HC:=Ac (fun p=>Hh (gr wr p) neg _ _ limbs (HN1.out.more (Bc _ p)) (HN2.out.more (Bc _ p)))
      have t2:(col != col)=false:=by simp
      clear hg hn1 hn2
      go_wp2_with fail
      (refine Bq (by kernel_rfl) (by kernel_rfl) ?_
       repeat (go_big_quiet_step ((go_at_call 65;exact Dc (HC.out _))))
       refine wpQuiet_nil ?_
       intro _ hw'
       obtain ⟨pq,hw''⟩:=hw'
       subst hw'')
      have hgq:=Bc wr pq
      generalize gr wr pq=wq at *
      go_wp2_with fail
      exact ⟨⟨k+1,by omega,by go_num,Ae HG.out hgq⟩,by simp [intOf];omega⟩
    · obtain rfl:k=l.length:=by omega
      go_wp2_with fail
      go_ret
      exact ⟨rfl,hg⟩
set_option maxRecDepth 100000 in
theorem N8 (w:World) (mn kn:Bool) (ml kl:List Nat) (a h s:List CellP) (Am1 Aa1 Ah1 As1 Ak1 Am2 Aa2 Ah2 As2 Ak2:Option Addr) (nm1 cm1 ca1 ch1 cs1 nk1 ck1 nm2 cm2 ca2 ch2 cs2 nk2 ck2:Nat)
  (hm1:Nums w (.slice Am1 nm1 cm1) ml) (hm2:Nums w (.slice Am2 nm2 cm2) ml) (hk1:Nums w (.slice Ak1 nk1 ck1) kl) (hk2:Nums w (.slice Ak2 nk2 ck2) kl)
  (ha1:CellRow w (.slice Aa1 a.length ca1) a) (ha2:CellRow w (.slice Aa2 a.length ca2) a) (hh1:CellRow w (.slice Ah1 h.length ch1) h) (hh2:CellRow w (.slice Ah2 h.length ch2) h) (hs1:CellRow w (.slice As1 s.length cs1) s) (hs2:CellRow w (.slice As2 s.length cs2) s) :
  Calls Tryz.prog 54 #[.agg #[.bool mn,.slice Am1 nm1 cm1,.slice Aa1 a.length ca1,.slice Ah1 h.length ch1,.slice As1 s.length cs1,.bool kn,.slice Ak1 nk1 ck1],.agg #[.bool mn,.slice Am2 nm2 cm2,.slice Aa2 a.length ca2,.slice Ah2 h.length ch2,.slice As2 s.length cs2,.bool kn,.slice Ak2 nk2 ck2]] w fun e w'=>e=.returned (.bool true)∧w.grownBy w' none:=by
 have gw:=Ae (Af w (.cells #[.bool mn,.slice Am1 nm1 cm1,.slice Aa1 a.length ca1,.slice Ah1 h.length ch1,.slice As1 s.length cs1,.bool kn,.slice Ak1 nk1 ck1] 52) none) (Af _ (.cells #[.bool mn,.slice Am2 nm2 cm2,.slice Aa2 a.length ca2,.slice Ah2 h.length ch2,.slice As2 s.length cs2,.bool kn,.slice Ak2 nk2 ck2] 52) none)
 have hB1:=(Blk.new w #[.bool mn,.slice Am1 nm1 cm1,.slice Aa1 a.length ca1,.slice Ah1 h.length ch1,.slice As1 s.length cs1,.bool kn,.slice Ak1 nk1 ck1] 52).more (Af _ (.cells #[.bool mn,.slice Am2 nm2 cm2,.slice Aa2 a.length ca2,.slice Ah2 h.length ch2,.slice As2 s.length cs2,.bool kn,.slice Ak2 nk2 ck2] 52) none)
 have hB2:=Blk.new (w.alloc (.cells #[.bool mn,.slice Am1 nm1 cm1,.slice Aa1 a.length ca1,.slice Ah1 h.length ch1,.slice As1 s.length cs1,.bool kn,.slice Ak1 nk1 ck1] 52)) #[.bool mn,.slice Am2 nm2 cm2,.slice Aa2 a.length ca2,.slice Ah2 h.length ch2,.slice As2 s.length cs2,.bool kn,.slice Ak2 nk2 ck2] 52
 rw [World.size_alloc] at hB2
 have HM:=Ac (fun w' (hg:w.grownBy w' none)=>Hh w' mn _ _ ml (hm1.more hg) (hm2.more hg))
 have HK:=Ac (fun w' (hg:w.grownBy w' none)=>Hh w' kn _ _ kl (hk1.more hg) (hk2.more hg))
 have HA:=Ac (fun w' (hg:w.grownBy w' none)=>Fk w' _ _ a (ha1.more hg) (ha2.more hg))
 have HH:=Ac (fun w' (hg:w.grownBy w' none)=>Fk w' _ _ h (hh1.more hg) (hh2.more hg))
 have HS:=Ac (fun w' (hg:w.grownBy w' none)=>Fk w' _ _ s (hs1.more hg) (hs2.more hg))
 have HB1:=Ac hB1
 have HB2:=Ac hB2
 have HGW:=Ac gw
 clear hm1 hm2 hk1 hk2 ha1 ha2 hh1 hh2 hs1 hs2
 obtain ⟨a0,a1,a2,a3,a4,a5,a6⟩:=hB1.seven
 obtain ⟨b0,b1,b2,b3,b4,b5,b6⟩:=hB2.seven
 go_enter Tryz.func54,Tryz.ntmps54
 go_wp2_with fail
 generalize (w.alloc (.cells #[.bool mn,.slice Am1 nm1 cm1,.slice Aa1 a.length ca1,.slice Ah1 h.length ch1,.slice As1 s.length cs1,.bool kn,.slice Ak1 nk1 ck1] 52)).alloc (.cells #[.bool mn,.slice Am2 nm2 cm2,.slice Aa2 a.length ca2,.slice Ah2 h.length ch2,.slice As2 s.length cs2,.bool kn,.slice Ak2 nk2 ck2] 52)=wa at *
 generalize w.heap.size=s at *
 clear hB1 hB2
 refine (HM.out wa HGW.out).mono ?_
 rintro e w1 ⟨rfl,hg⟩
 have HB1:=Ac (HB1.out.more hg)
 have HB2:=Ac (HB2.out.more hg)
 have HGW:=Ac (Ae HGW.out hg)
 clear hg a0 a1 a2 a3 a4 a5 a6 b0 b1 b2 b3 b4 b5 b6
 obtain ⟨a0,a1,a2,a3,a4,a5,a6⟩:=HB1.out.seven
 obtain ⟨b0,b1,b2,b3,b4,b5,b6⟩:=HB2.out.seven
 go_wp2_with fail
 refine (HK.out w1 HGW.out).mono ?_
 rintro e w2 ⟨rfl,hg⟩
 have HB1:=Ac (HB1.out.more hg)
 have HB2:=Ac (HB2.out.more hg)
 have HGW:=Ac (Ae HGW.out hg)
 clear hg a0 a1 a2 a3 a4 a5 a6 b0 b1 b2 b3 b4 b5 b6
 obtain ⟨a0,a1,a2,a3,a4,a5,a6⟩:=HB1.out.seven
 obtain ⟨b0,b1,b2,b3,b4,b5,b6⟩:=HB2.out.seven
 go_wp2_with fail
 refine (HA.out w2 HGW.out).mono ?_
 rintro e w3 ⟨rfl,hg⟩
 have HB1:=Ac (HB1.out.more hg)
 have HB2:=Ac (HB2.out.more hg)
 have HGW:=Ac (Ae HGW.out hg)
 clear hg a0 a1 a2 a3 a4 a5 a6 b0 b1 b2 b3 b4 b5 b6
 obtain ⟨a0,a1,a2,a3,a4,a5,a6⟩:=HB1.out.seven
 obtain ⟨b0,b1,b2,b3,b4,b5,b6⟩:=HB2.out.seven
 go_wp2_with fail
 refine (HH.out w3 HGW.out).mono ?_
 rintro e w4 ⟨rfl,hg⟩
 have HB1:=Ac (HB1.out.more hg)
 have HB2:=Ac (HB2.out.more hg)
 have HGW:=Ac (Ae HGW.out hg)
 clear hg a0 a1 a2 a3 a4 a5 a6 b0 b1 b2 b3 b4 b5 b6
 obtain ⟨a0,a1,a2,a3,a4,a5,a6⟩:=HB1.out.seven
 obtain ⟨b0,b1,b2,b3,b4,b5,b6⟩:=HB2.out.seven
 go_wp2_with fail
 refine (HS.out w4 HGW.out).mono ?_
 rintro e w5 ⟨rfl,hg⟩
 have HB1:=Ac (HB1.out.more hg)
 have HB2:=Ac (HB2.out.more hg)
 have HGW:=Ac (Ae HGW.out hg)
 clear hg a0 a1 a2 a3 a4 a5 a6 b0 b1 b2 b3 b4 b5 b6
 obtain ⟨a0,a1,a2,a3,a4,a5,a6⟩:=HB1.out.seven
 obtain ⟨b0,b1,b2,b3,b4,b5,b6⟩:=HB2.out.seven
 go_wp2_with fail
 go_ret
 exact ⟨rfl,HGW.out⟩
set_option maxRecDepth 100000 in
theorem Iv (w:World) (v1 v2:Value) (l:List RowP) (hx:SysRow w v1 l) (hy:SysRow w v2 l) :
    Calls Tryz.prog 15 #[.agg #[v1],.agg #[v2]] w fun e w'=>e=.returned (.bool true)∧w.grownBy w' none:=by
  obtain ⟨A1,c1,rfl,m1,m1'⟩:=hx.ctor
  obtain ⟨A2,c2,rfl,_⟩:=hy.ctor
  have hl:l.length≤9223372036854775807:=by omega
  clear m1 m1'
  have gw:=Ae (Af w (.cells #[.slice A1 l.length c1] 38) none) (Af _ (.cells #[.slice A2 l.length c2] 38) none)
  have hB1:=(Blk.new w #[.slice A1 l.length c1] 38).more (Af _ (.cells #[.slice A2 l.length c2] 38) none)
  have hB2:=Blk.new (w.alloc (.cells #[.slice A1 l.length c1] 38)) #[.slice A2 l.length c2] 38
  rw [World.size_alloc] at hB2
  have HX:=Ac (hx.more gw)
  have HY:=Ac (hy.more gw)
  have HGW:=Ac gw
  have HB1:=Ac hB1
  have HB2:=Ac hB2
  have t1:((l.length:Int) != (l.length:Int))=false:=by simp
  have a0:=hB1.cell 0
  have b0:=hB2.cell 0
  simp only [List.getElem?_toArray,List.getElem?_cons_zero] at a0 b0
  clear hx hy gw hB1 hB2
  go_enter Tryz.func15,Tryz.ntmps15
  go_wp2_with fail
  generalize (w.alloc (.cells #[.slice A1 l.length c1] 38)).alloc (.cells #[.slice A2 l.length c2] 38)=wa at *
  generalize w.heap.size=s at *
  clear a0 b0
  go_loopw [5] (fun iv wr=>∃ k:Nat,k≤l.length∧iv=.int .i64 k∧wa.grownBy wr none) (fun iv _=>(l.length-intOf iv).toNat)
  case atStart=>exact ⟨0,by omega,rfl,Al _ _⟩
  case round =>
    obtain ⟨k,hk,rfl,hg⟩:=hrel
    have a0:=(HB1.out.more hg).cell 0
    have b0:=(HB2.out.more hg).cell 0
    simp only [List.getElem?_toArray,List.getElem?_cons_zero] at a0 b0
    by_cases hlt:k<l.length
    · obtain ⟨d1,o1,Am1,nm1,cm1,Aa1,ca1,Ah1,ch1,As1,cs1,Ak1,nk1,ck1,rfl,x0,x1,x2,x3,x4,x5,x6,n1,n2,n3,n4,n5⟩:=(HX.out.more hg).at hlt
      obtain ⟨d2,o2,Am2,nm2,cm2,Aa2,ca2,Ah2,ch2,As2,cs2,Ak2,nk2,ck2,rfl,y0,y1,y2,y3,y4,y5,y6,r1,r2,r3,r4,r5⟩:=(HY.out.more hg).at hlt
      have hki:(k:Int)<(l.length:Int):=by omega
      generalize l.getD k row0=x at *
      obtain ⟨mn,ml,a,h,s',kn,kl⟩:=x
      simp only at x0 x1 x2 x3 x4 x5 x6 n1 n2 n3 n4 n5 y0 y1 y2 y3 y4 y5 y6 r1 r2 r3 r4 r5
      have P0:=fun p=>B8 a0 p
      have R0:=fun p=>B8 b0 p
      have X0:=fun p=>B8 x0 p
      have X1:=fun p=>B8 x1 p
      have X2:=fun p=>B8 x2 p
      have X3:=fun p=>B8 x3 p
      have X4:=fun p=>B8 x4 p
      have X5:=fun p=>B8 x5 p
      have X6:=fun p=>B8 x6 p
      have Y0:=fun p=>B8 y0 p
      have Y1:=fun p=>B8 y1 p
      have Y2:=fun p=>B8 y2 p
      have Y3:=fun p=>B8 y3 p
      have Y4:=fun p=>B8 y4 p
      have Y5:=fun p=>B8 y5 p
      have Y6:=fun p=>B8 y6 p
      have HC:=Ac (fun p=>N8 (gr wr p) mn kn ml kl a h s' _ _ _ _ _ _ _ _ _ _ _ _ _ _ _ _ _ _ _ _ _ _ _ _ (n1.more (Bc _ p)) (r1.more (Bc _ p)) (n5.more (Bc _ p)) (r5.more (Bc _ p)) (n2.more (Bc _ p)) (r2.more (Bc _ p)) (n3.more (Bc _ p)) (r3.more (Bc _ p)) (n4.more (Bc _ p)) (r4.more (Bc _ p)))
      have HG:=Ac hg
      clear hg n1 n2 n3 n4 n5 r1 r2 r3 r4 r5 x0 x1 x2 x3 x4 x5 x6 y0 y1 y2 y3 y4 y5 y6
      go_wp2_with fail
      (refine Bq (by kernel_rfl) (by kernel_rfl) ?_
       repeat (go_big_quiet_step ((go_at_call 54;exact Dc (HC.out _))))
       refine wpQuiet_nil ?_
       intro _ hw'
       obtain ⟨pq,hw''⟩:=hw'
       subst hw'')
      have hgq:=Bc wr pq
      generalize gr wr pq=wq at *
      go_wp2_with fail
      exact ⟨⟨k+1,by omega,by go_num,Ae HG.out hgq⟩,by simp [intOf];omega⟩
    · obtain rfl:k=l.length:=by omega
      go_wp2_with fail
      go_ret
      exact ⟨rfl,Ae HGW.out hg⟩
end
section
open Go Go.RowKit
section
variable {P:Program} {md:Region.Mode} {ops:Array Oper} {Q:Exit→Act→World→Prop} {S:World→Prop} {z:Nat}
def wpU (P:Program) (md:Region.Mode) (ops:Array Oper) (Q:Exit→Act→World→Prop) (S:World→Prop) (z:Nat) (n:Nat) (l:Array Bool) (a:Act) (w:World):Prop :=
 match n with
 | 0=>Region.ready md ops l=[]∧Q .normal a w
 | n+1=>(Region.ready md ops l=[]→Q .normal a w)∧
  ∀ i∈Region.ready md ops l,wpOp P ops Q i (fun a' w'=>((l.setIfInBounds i true).getD z true=false→S w')∧wpU P md ops Q S z n (l.setIfInBounds i true) a' w') a w
theorem wpU.any:∀ {n:Nat} {l:Array Bool} {a:Act} {w:World},wpU P md ops Q S z n l a w→wpAny P md ops Q n l a w
 | 0,_,_,_,h=>h
 | _+1,_,_,_,h=>⟨h.1,fun i hi=>wpOp_mono (fun _ _ k=>k.2.any) (h.2 i hi)⟩
theorem Sv {id:Nat} {a:Act} {w:World} (hm:P.follows .mixedOrders=true) (h:wpU P .any ops Q S z ops.size (Array.replicate ops.size false) a w.drew):(Code.region id ops true).wp P Q a w :=
 wp_region_any hm h.any
theorem Tq {i:Nat} {oi:Oper} {v:Value} (hi:ops[i]? = some oi) (hsel:∀ (j:Nat) (o:Oper) cs b,ops[j]? = some o→o.op≠.select cs b) (hQ:∀ c a w,Q (.panic c) (a.put oi.dst v) w→Q (.panic c) a w) (M:List Nat) (hzM:z∈M)
  (hM:∀ m∈M,m≠i∧∃ om,ops[m]? = some om∧∃ e∈om.after,Region.binds md e=true∧(e.on=i∨e.on∈M)) :
  ∀ (n:Nat) (l:Array Bool) (a:Act) (w:World),(∀ j oj,ops[j]? = some oj→j≠i→l.getD j true=false→(∀ e∈oj.after,Region.binds md e=true→e.on≠i)→oi.apart ops oj=true)→
   i∈Region.ready md ops l→(∀ m∈M,l.getD m true=false)→YieldsIf P ops S oi v a→S w→wpU P md ops Q S z n (l.setIfInBounds i true) (a.put oi.dst v) w→wpU P md ops Q S z (n+1) l a w
 | 0,l,a,w,_,hr,hlz,hy,hS,H=>by
  refine ⟨fun h0=>absurd hr (by rw [h0];simp),fun j hj=>?_⟩
  rcases Nat.decEq j i with hne | he
  ·have:=ready_mono hj hne
   rw [H.1] at this
   simp at this
  ·subst he;exact hy.wpOp hi hS ⟨fun _=>hS,H⟩
 | n+1,l,a,w,hap,hr,hlz,hy,hS,H=>by
  refine ⟨fun h0=>absurd hr (by rw [h0];simp),fun j hj=>?_⟩
  rcases Nat.decEq j i with hne | he
  ·obtain ⟨hjl,oj,hoj,hall⟩:=mem_ready.1 hj
   have hil:=(mem_ready.1 hr).1
   have hno:∀ p,l.getD p true=false→∀ e∈oj.after,Region.binds md e=true→e.on≠p:=by
    intro p hp e he hb hon
    have h1:=hall e he hb
    rw [hon,O4 hp] at h1
    cases h1
   have hil':l.getD i true=false:=by
    obtain ⟨h1,_⟩:=mem_ready.1 hr
    exact h1
   have hnext:=ready_mono (i:=j) hr (fun e=>hne e.symm)
   refine wpOp_mono (fun a' w' k=>?_) (wpOp_putIf hoj (hap j oj hoj hne hjl (hno i hil')) (fun cs b=>hsel i oi cs b hi) (fun cs b=>hsel j oj cs b hoj) hQ hy (H.2 j (ready_mono hj hne)))
   obtain ⟨hy',hS',H'⟩:=k
   have hjM:∀ m∈M,j≠m:=by
    rintro m hm rfl
    obtain ⟨_,om,hom,e,he,hb,hon⟩:=hM _ hm
    rw [hoj] at hom
    injection hom with hom
    subst hom
    rcases hon with hon | hon
    ·exact hno i hil' e he hb hon
    ·exact hno _ (hlz _ hon) e he hb rfl
   have hS2:=hS' (by rw [getD_set_ne true (hjM z hzM),getD_set_ne true (fun e=>(hM z hzM).1 e.symm)];exact hlz z hzM)
   exact ⟨fun _=>hS2,Tq hi hsel hQ M hzM hM n (l.setIfInBounds j true) a' w' (fun k ok hk hki hkl hkn=>hap k ok hk hki (by
    by_cases hjk:j=k
    ·subst hjk;exact hjl
    ·rwa [getD_set_ne true hjk] at hkl) hkn) hnext (fun m hm=>by rw [getD_set_ne true (hjM m hm)];exact hlz m hm) hy' hS2 (by rw [Array.setIfInBounds_comm _ _ hne];exact H')⟩
  ·subst he;exact hy.wpOp hi hS ⟨fun _=>hS,H⟩
theorem C8 (i:Nat) (M:List Nat) {oi:Oper} {more:List Oper} {v:Value} {n:Nat} {l:Array Bool} {a:Act} {w:World} (hi':ops.toList.drop i=oi::more) (hs:Region.noSelect ops=true) (hf:Region.free md ops l i=true) (hr:(Region.ready md ops l).contains i=true)
  (hQ:∀ c a w,Q (.panic c) (a.put oi.dst v) w→Q (.panic c) a w) (hzM:M.contains z=true) (hM:(M.all fun m=>m != i&&(ops[m]?.map fun o=>o.after.any fun e=>Region.binds md e&&(e.on==i||M.contains e.on)).getD false)=true) (hl:(M.all fun m=>!(l.getD m true))=true)
  (hw:Region.wanted oi (yielded ops a.tmps)=true) (hy:∀ w,S w→(execOp a.eval oi).run P w=.ok (.value v) w) (hS:S w)
  (h:wpU P md ops Q S z n (l.setIfInBounds i true) (a.put oi.dst v) w):wpU P md ops Q S z (n+1) l a w :=
 have hi:=Sp hi'
 Tq hi (Region.noSelect_spec hs) hQ M (by simpa using hzM) (fun m hm=>by
  have:=List.all_eq_true.1 hM m hm
  simp only [Bool.and_eq_true,bne_iff_ne] at this
  obtain ⟨h1,h2⟩:=this
  refine ⟨h1,?_⟩
  cases ho:ops[m]? with
  | none=>rw [ho] at h2;simp at h2
  | some om =>
   rw [ho] at h2
   simp only [Option.map_some,Option.getD_some] at h2
   obtain ⟨e,he,hb⟩:=Array.any_eq_true'.1 h2
   simp only [Bool.and_eq_true,Bool.or_eq_true,beq_iff_eq,List.contains_iff_mem] at hb
   exact ⟨om,rfl,e,he,hb.1,hb.2⟩) n l a w (Region.free_spec hi hf) (by simpa using hr) (fun m hm=>by
  have:=List.all_eq_true.1 hl m hm
  simpa using this) (.inl ⟨hw,hy⟩) hS h
theorem Pw {i:Nat} {oi:Oper} {v:Value} (hi:ops[i]? = some oi) (hsel:∀ (j:Nat) (o:Oper) cs b,ops[j]? = some o→o.op≠.select cs b) (hQ:∀ c a w,Q (.panic c) (a.put oi.dst v) w→Q (.panic c) a w) (hzi:z≠i) :
  ∀ (n:Nat) (l:Array Bool) (a:Act) (w:World),(∀ j oj,ops[j]? = some oj→j≠i→l.getD j true=false→(∀ e∈oj.after,Region.binds md e=true→e.on≠i)→oi.apart ops oj=true)→
   i∈Region.ready md ops l→YieldsIf P ops (fun _=>True) oi v a→(l.getD z true=false→S w)→wpU P md ops Q S z n (l.setIfInBounds i true) (a.put oi.dst v) w→wpU P md ops Q S z (n+1) l a w
 | 0,l,a,w,_,hr,hy,hS,H=>by
  refine ⟨fun h0=>absurd hr (by rw [h0];simp),fun j hj=>?_⟩
  rcases Nat.decEq j i with hne | he
  ·have:=ready_mono hj hne
   rw [H.1] at this
   simp at this
  ·subst he;exact hy.wpOp hi trivial ⟨fun h=>hS (by rwa [getD_set_ne true (fun e=>hzi e.symm)] at h),H⟩
 | n+1,l,a,w,hap,hr,hy,hS,H=>by
  refine ⟨fun h0=>absurd hr (by rw [h0];simp),fun j hj=>?_⟩
  rcases Nat.decEq j i with hne | he
  ·obtain ⟨hjl,oj,hoj,hall⟩:=mem_ready.1 hj
   have hil:=(mem_ready.1 hr).1
   have hno:∀ e∈oj.after,Region.binds md e=true→e.on≠i:=by
    intro e he hb hon
    have h1:=hall e he hb
    rw [hon,O4 hil] at h1
    cases h1
   have hnext:=ready_mono (i:=j) hr (fun e=>hne e.symm)
   refine wpOp_mono (fun a' w' k=>?_) (wpOp_putIf hoj (hap j oj hoj hne hjl hno) (fun cs b=>hsel i oi cs b hi) (fun cs b=>hsel j oj cs b hoj) hQ hy (H.2 j (ready_mono hj hne)))
   obtain ⟨hy',hS',H'⟩:=k
   have hS2:(l.setIfInBounds j true).getD z true=false→S w':=fun h=>hS' (by rw [Array.setIfInBounds_comm _ _ (fun e=>hne e.symm),getD_set_ne true (fun e=>hzi e.symm)];exact h)
   exact ⟨hS2,Pw hi hsel hQ hzi n (l.setIfInBounds j true) a' w' (fun k ok hk hki hkl hkn=>hap k ok hk hki (by
    by_cases hjk:j=k
    ·subst hjk;exact hjl
    ·rwa [getD_set_ne true hjk] at hkl) hkn) hnext hy' hS2 (by rw [Array.setIfInBounds_comm _ _ hne];exact H')⟩
  ·subst he;exact hy.wpOp hi trivial ⟨fun h=>hS (by rwa [getD_set_ne true (fun e=>hzi e.symm)] at h),H⟩
theorem Oq (i:Nat) {oi:Oper} {more:List Oper} {v:Value} {n:Nat} {l:Array Bool} {a:Act} {w:World} (hi':ops.toList.drop i=oi::more) (hs:Region.noSelect ops=true) (hf:Region.free md ops l i=true) (hr:(Region.ready md ops l).contains i=true)
  (hQ:∀ c a w,Q (.panic c) (a.put oi.dst v) w→Q (.panic c) a w) (hzi:z≠i) (hw:Region.wanted oi (yielded ops a.tmps)=true) (hy:∀ w,(execOp a.eval oi).run P w=.ok (.value v) w) (hS:l.getD z true=false→S w)
  (h:wpU P md ops Q S z n (l.setIfInBounds i true) (a.put oi.dst v) w):wpU P md ops Q S z (n+1) l a w :=
 have hi:=Sp hi'
 Pw hi (Region.noSelect_spec hs) hQ hzi n l a w (Region.free_spec hi hf) (by simpa using hr) (.inl ⟨hw,fun w _=>hy w⟩) hS h
theorem A17 (i j:Nat) {oi oj:Oper} {more more':List Oper} {n:Nat} {l:Array Bool} {a:Act} {w:World} (hr:Region.ready md ops l=[i,j]) (hi':ops.toList.drop i=oi::more) (hj':ops.toList.drop j=oj::more')
  (h:∀ K:Act→World→Prop,Hid (∀ a' w',((l.setIfInBounds i true).getD z true=false→S w')→wpU P md ops Q S z n (l.setIfInBounds i true) a' w'→K a' w')→if Region.wanted oi (yielded ops a.tmps)=true then Oper.wp P oi a w K Q else K (a.put oi.dst undef) w)
  (h2:∀ K:Act→World→Prop,Hid (∀ a' w',((l.setIfInBounds j true).getD z true=false→S w')→wpU P md ops Q S z n (l.setIfInBounds j true) a' w'→K a' w')→if Region.wanted oj (yielded ops a.tmps)=true then Oper.wp P oj a w K Q else K (a.put oj.dst undef) w):wpU P md ops Q S z (n+1) l a w:=by
 have hi:=Sp hi'
 have hj:=Sp hj'
 refine ⟨fun h0=>(by rw [hr] at h0;cases h0),fun k hk=>?_⟩
 rw [hr] at hk
 rcases List.mem_cons.1 hk with rfl | hk
 ·exact wpOp_step hi fun K hK=>h K (Ac fun a' w' hs ht=>hK a' w' ⟨hs,ht⟩)
 ·obtain rfl:=List.mem_singleton.1 hk
  exact wpOp_step hj fun K hK=>h2 K (Ac fun a' w' hs ht=>hK a' w' ⟨hs,ht⟩)
theorem Eo (i:Nat) {oi:Oper} {more:List Oper} {n:Nat} {l:Array Bool} {a:Act} {w:World} (hr:Region.ready md ops l=[i]) (hi':ops.toList.drop i=oi::more)
  (h:∀ K:Act→World→Prop,Hid (∀ a' w',((l.setIfInBounds i true).getD z true=false→S w')→wpU P md ops Q S z n (l.setIfInBounds i true) a' w'→K a' w')→if Region.wanted oi (yielded ops a.tmps)=true then Oper.wp P oi a w K Q else K (a.put oi.dst undef) w):wpU P md ops Q S z (n+1) l a w:=by
 have hi:=Sp hi'
 refine ⟨fun h0=>(by rw [hr] at h0;cases h0),fun j hj=>?_⟩
 rw [hr,List.mem_singleton] at hj
 subst hj
 exact wpOp_step hi fun K hK=>h K (Ac fun a' w' hs ht=>hK a' w' ⟨hs,ht⟩)
theorem Oo {l:Array Bool} {a:Act} {w:World} {n:Nat} (hr:Region.ready md ops l=[]) (h:Q .normal a w):wpU P md ops Q S z n l a w:=by
 cases n with
 | zero=>exact ⟨hr,h⟩
 | succ n=>exact ⟨fun _=>h,by rw [hr];simp⟩
end
end
end Go.Proofs.YtmfmfpmkgmkgiaaGreatDoor
