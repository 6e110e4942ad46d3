/- LawC AwA AwB LawA Script AwC. -/
import Derived.Test.YtckbiimikeiejaaGreatDoorMbg
import Derived.Test.YtckbiimikeiejaaGreatDoorMbd
import Derived.Test.YtckbiimikeiejaaGreatDoorMan
import Derived.OrdersHeld
import Derived.RegionTactic
import Derived.Lib.Hide
import Derived.Test.YtckbiimikeiejaaGreatDoorMam
set_option linter.unusedVariables false
set_option linter.unusedSimpArgs false
set_option maxHeartbeats 40000000
namespace Go.Proofs.YtckbiimikeiejaaGreatDoor
section
open Go.RowKit Go.Maps
def bs (l:List UInt8):ByteArray:=⟨l.toArray⟩
def J1:List DevP:=[⟨118,bs [118,49],[1,0],0,(0,0),1,[(5,0)],[],ByteArray.empty,0,[],[]⟩,⟨114,bs [114,49],[1,2],0,(1,3),0,[],[],ByteArray.empty,0,[],[]⟩,⟨114,bs [114,50],[2,0],0,(2,3),0,[],[],ByteArray.empty,0,[],[]⟩]
def Dv:Bf:=⟨[bs [48],bs [97],bs [98]],J1,(1,0),1⟩
instance (x:Int):Decidable (I64 x):=by unfold I64;infer_instance
instance (d:DevP):Decidable d.small:=by unfold DevP.small;infer_instance
theorem Vh {W:World} {b:Nat} {cs:List Value} (h:Blk W b cs.toArray) (hl:cs.length≤9223372036854775807):Row W (.slice (some ⟨b,0,none⟩) cs.length cs.length) cs:=by
 refine ⟨_,_,rfl,Nat.le_refl _,hl,.inr ⟨b,0,rfl,fun i hi=>?_⟩⟩
 rw [h.cell,Nat.zero_add]
 simp
theorem Ku {W:World} {b:Nat} {l:List Int} (h:Blk W b (ints l).toArray) (hl:l.length≤9223372036854775807) (hi:∀ x∈l,I64 x):IntRow W (.slice (some ⟨b,0,none⟩) l.length l.length) l:=by
 have e:(ints l).length=l.length:=by simp [ints]
 have:=Row.introw (Vh h (by rw [e];exact hl)) hi
 rw [e] at this
 exact this
theorem L8 (W:World):IntRow W (.slice none 0 0) []:=⟨none,0,rfl,Nat.le_refl _,by omega,by simp,fun h=>by simp at h⟩
theorem Fy (W:World):NumRow W (.slice none 0 0) []:=⟨none,0,rfl,Nat.le_refl _,by omega,by simp,fun h=>by simp at h⟩
def Lq (d:DevP) (vn vv:Value):List Value:=[.int .u8 d.kind,.string d.name,vn,.int .i64 d.ref,.int .i64 d.val.1,.int .i64 d.val.2,.int .i64 d.wkind,vv,.slice none 0 0,.string ByteArray.empty,.int .u8 0,.slice none 0 0,.slice none 0 0]
theorem A08 {W:World} {s2 s3 s4 s5 s6 s7:Nat} (h2:Blk W s2 (strs Dv.nodes).toArray) (h3:Blk W s3 (ints [1,0]).toArray) (h4:Blk W s4 #[.int .i64 5,.int .i64 0]) (h5:Blk W s5 (ints [1,2]).toArray) (h6:Blk W s6 (ints [2,0]).toArray)
  (h7:Blk W s7 (Lq (J1.getD 0 dev0) (.slice (some ⟨s3,0,none⟩) 2 2) (.slice (some ⟨s4,0,none⟩) 1 1)++Lq (J1.getD 1 dev0) (.slice (some ⟨s5,0,none⟩) 2 2) (.slice none 0 0)++Lq (J1.getD 2 dev0) (.slice (some ⟨s6,0,none⟩) 2 2) (.slice none 0 0)).toArray) :
  FlatAt W Dv (some ⟨s2,0,none⟩) 3 (some ⟨s7,0,none⟩) 3:=by
 have r3:=Ku h3 (by simp) (by simp [I64])
 have r5:=Ku h5 (by simp) (by simp [I64])
 have r6:=Ku h6 (by simp) (by simp [I64])
 have r4:NumRow W (.slice (some ⟨s4,0,none⟩) 1 1) [(5,0)]:=⟨_,_,rfl,Nat.le_refl _,by omega,by simp [I64],fun _=>⟨s4,0,rfl,fun i hi=>by
  have:i=0:=by simp at hi;omega
  subst this
  exact ⟨h4.cell 0,h4.cell 1⟩⟩⟩
 refine ⟨Vh h2 (by simp [strs,Dv]),?_,⟨_,_,rfl,Nat.le_refl _,by simp [Dv,J1],fun _=>⟨s7,0,rfl,fun i hi=>?_⟩⟩,by simp [Dv,I64],by simp [Dv,I64],by simp [Dv,I64],by simp [Dv],by simp [Dv,J1]⟩
 ·intro x hx
  simp [Dv] at hx
  rcases hx with rfl | rfl | rfl<;>decide
 ·have hi:i=0∨i=1∨i=2:=by simp [Dv,J1] at hi;omega
  rcases hi with rfl | rfl | rfl
  ·refine ⟨Lq (J1.getD 0 dev0) (.slice (some ⟨s3,0,none⟩) 2 2) (.slice (some ⟨s4,0,none⟩) 1 1),⟨by decide,by decide,by decide,by decide,by decide,by decide,by decide,by decide,_,_,_,_,_,rfl,r3,r4,L8 _,Fy _,Fy _⟩,fun j hj=>?_⟩
   rw [h7.cell]
   rcases j with _ | _ | _ | _ | _ | _ | _ | _ | _ | _ | _ | _ | _ | j<;>first | rfl | omega
  ·refine ⟨Lq (J1.getD 1 dev0) (.slice (some ⟨s5,0,none⟩) 2 2) (.slice none 0 0),⟨by decide,by decide,by decide,by decide,by decide,by decide,by decide,by decide,_,_,_,_,_,rfl,r5,Fy _,L8 _,Fy _,Fy _⟩,fun j hj=>?_⟩
   rw [h7.cell]
   rcases j with _ | _ | _ | _ | _ | _ | _ | _ | _ | _ | _ | _ | _ | j<;>first | rfl | omega
  ·refine ⟨Lq (J1.getD 2 dev0) (.slice (some ⟨s6,0,none⟩) 2 2) (.slice none 0 0),⟨by decide,by decide,by decide,by decide,by decide,by decide,by decide,by decide,_,_,_,_,_,rfl,r6,Fy _,L8 _,Fy _,Fy _⟩,fun j hj=>?_⟩
   rw [h7.cell]
   rcases j with _ | _ | _ | _ | _ | _ | _ | _ | _ | _ | _ | _ | _ | j<;>first | rfl | omega
theorem Wg {P:Program} {fn:Func} {R:Ending→World→Prop} {a:Act} (w:World) (c0 c1 c2 c3 c4 c5 c6 c7:Array Value) (T0 T1 T2 T3 T4 T5 T6 T7:TypeId)
  (h:∀ W,Blk W w.heap.size c0→Blk W (w.heap.size+1+1) c2→Blk W (w.heap.size+1+1+1) c3→Blk W (w.heap.size+1+1+1+1) c4→Blk W (w.heap.size+1+1+1+1+1) c5→Blk W (w.heap.size+1+1+1+1+1+1) c6→Blk W (w.heap.size+1+1+1+1+1+1+1) c7→w.grownBy W none→bodyPost P fn R .ret a W) :
  bodyPost P fn R .ret a ((((((((w.alloc (.cells c0 T0)).alloc (.cells c1 T1)).alloc (.cells c2 T2)).alloc (.cells c3 T3)).alloc (.cells c4 T4)).alloc (.cells c5 T5)).alloc (.cells c6 T6)).alloc (.cells c7 T7)):=by
 have b0:=Blk.new w c0 T0
 have b2:=Blk.new ((w.alloc (.cells c0 T0)).alloc (.cells c1 T1)) c2 T2
 have b3:=Blk.new (((w.alloc (.cells c0 T0)).alloc (.cells c1 T1)).alloc (.cells c2 T2)) c3 T3
 have b4:=Blk.new ((((w.alloc (.cells c0 T0)).alloc (.cells c1 T1)).alloc (.cells c2 T2)).alloc (.cells c3 T3)) c4 T4
 have b5:=Blk.new (((((w.alloc (.cells c0 T0)).alloc (.cells c1 T1)).alloc (.cells c2 T2)).alloc (.cells c3 T3)).alloc (.cells c4 T4)) c5 T5
 have b6:=Blk.new ((((((w.alloc (.cells c0 T0)).alloc (.cells c1 T1)).alloc (.cells c2 T2)).alloc (.cells c3 T3)).alloc (.cells c4 T4)).alloc (.cells c5 T5)) c6 T6
 have b7:=Blk.new (((((((w.alloc (.cells c0 T0)).alloc (.cells c1 T1)).alloc (.cells c2 T2)).alloc (.cells c3 T3)).alloc (.cells c4 T4)).alloc (.cells c5 T5)).alloc (.cells c6 T6)) c7 T7
 simp only [World.size_alloc] at b2 b3 b4 b5 b6 b7
 exact h _ (b0.more (by (focus ((repeat (first | assumption | exact Al _ _ | exact Ai _ _ | exact Af _ _ _ | refine Ae ?_ (Af _ _ _) | refine Ae ?_ (Ai _ _) | refine Ae ?_ (by assumption)));done)))) (b2.more (by (focus ((repeat (first | assumption | exact Al _ _ | exact Ai _ _ | exact Af _ _ _ | refine Ae ?_ (Af _ _ _) | refine Ae ?_ (Ai _ _) | refine Ae ?_ (by assumption)));done)))) (b3.more (by (focus ((repeat (first | assumption | exact Al _ _ | exact Ai _ _ | exact Af _ _ _ | refine Ae ?_ (Af _ _ _) | refine Ae ?_ (Ai _ _) | refine Ae ?_ (by assumption)));done)))) (b4.more (by (focus ((repeat (first | assumption | exact Al _ _ | exact Ai _ _ | exact Af _ _ _ | refine Ae ?_ (Af _ _ _) | refine Ae ?_ (Ai _ _) | refine Ae ?_ (by assumption)));done)))) (b5.more (by (focus ((repeat (first | assumption | exact Al _ _ | exact Ai _ _ | exact Af _ _ _ | refine Ae ?_ (Af _ _ _) | refine Ae ?_ (Ai _ _) | refine Ae ?_ (by assumption)));done)))) (b6.more (by (focus ((repeat (first | assumption | exact Al _ _ | exact Ai _ _ | exact Af _ _ _ | refine Ae ?_ (Af _ _ _) | refine Ae ?_ (Ai _ _) | refine Ae ?_ (by assumption)));done)))) b7 (by (focus ((repeat (first | assumption | exact Al _ _ | exact Ai _ _ | exact Af _ _ _ | refine Ae ?_ (Af _ _ _) | refine Ae ?_ (Ai _ _) | refine Ae ?_ (by assumption)));done)))
set_option maxRecDepth 100000 in
theorem Jv (w:World) :
  Calls Tryz.prog 52 #[] w fun e w'=>∃ A1 A2,e=.returned (.agg #[.slice A1 3 3,.slice A2 3 3,.int .i64 1,.int .i64 0,.int .i64 1])∧FlatAt w' Dv A1 3 A2 3∧w.grownBy w' none:=by
 go_enter Tryz.func52,Tryz.ntmps52
 go_wp2_with fail
 refine Wg w _ _ _ _ _ _ _ _ _ _ _ _ _ _ _ _ (fun W b0 b2 b3 b4 b5 b6 b7 hg=>?_)
 refine bodyPost_ret (v:=.agg #[.slice (some ⟨w.heap.size+1+1,0,none⟩) 3 3,.slice (some ⟨w.heap.size+1+1+1+1+1+1+1,0,none⟩) 3 3,.int .i64 1,.int .i64 0,.int .i64 1]) (by simp [results,Tryz.results52,go_sem,b0.cell]) rfl ⟨_,_,rfl,A08 b2 b3 b4 b5 b6 b7,hg⟩
end
section
open Go.RowKit Go.Maps
theorem Wf:Cq Dv=0:=by decide +kernel
theorem U4:unk Dv=3:=by decide +kernel
theorem Wi:dcE (Dv.devs.getD 0 dev0).wvals 3=0:=by decide +kernel
theorem Wh:srcs Dv.devs 3 3=[5000000000,0,0]:=by decide +kernel
theorem P1:setB 1 0 (0,0)=true:=by decide +kernel
theorem A09:Fm (C6 (fun k=>At Dv k) 3) 3=0:=by decide +kernel
def Hj:List RowP:=G1 (C6 (fun k=>At Dv k) 3) 3
theorem S3:Hj.length=3:=by decide +kernel
theorem Yi:(Hj.getD 1 row0).mneg=false∧(Hj.getD 1 row0).mlimbs=[2000]:=by decide +kernel
theorem K7:(Hj.getD 1 row0).a.length=2∧((Hj.getD 1 row0).a.getD 0 Br).neg=true∧((Hj.getD 1 row0).a.getD 0 Br).limbs=[2]∧((Hj.getD 1 row0).a.getD 1 Br).col=1:=by decide +kernel
theorem Yj:rhsE Hj [0,0,0] [5000000000,0,0]=0:=by decide +kernel
theorem Lp:(rhsV Hj [0,0,0] [5000000000,0,0]).length=3∧(rhsV Hj [0,0,0] [5000000000,0,0]).getD 2 0=5000000000:=by decide +kernel
theorem Wj:sysE [row0]=130:=by decide +kernel
end
section
open Go.RowKit Go.Maps
theorem Z1:∀ k,k<3→∀ x∈At Dv k,(0≤x.row∧x.row<3)∧(0≤x.kind∧x.kind<5)∧LimQ x.val 10:=by
 intro k hk
 have:k=0∨k=1∨k=2:=by omega
 unfold LimQ
 rcases this with rfl | rfl | rfl<;>decide +kernel
theorem U3:(C6 (fun k=>At Dv k) 3).length≤100:=by decide +kernel
set_option maxRecDepth 100000 in
theorem My (w:World) (A1 A2:Option Addr) (hf:FlatAt w Dv A1 3 A2 3) (hG:GlobOK w) :
  Calls Tryz.prog 16 #[.agg #[.slice A1 3 3,.slice A2 3 3,.int .i64 1,.int .i64 0,.int .i64 1],.agg #[.int .i64 1,.int .i64 0,.int .i64 0,.int .i64 0],.slice none 0 0] w fun e w'=>∃ A c,e=.returned (.tuple #[.agg #[.slice A 3 c],.int .i64 0])∧SysRow w' (.slice A 3 c) Hj∧w.grownBy w' none:=by
 have h:=B6 w Dv A1 3 A2 3 hf hG Wf 1 0 (0,0) (by decide) (by decide) P1 (by decide +kernel) 3 U4 (fun k=>At Dv k) 10 100
  (fun k hk W hg=>U2 W Dv A1 3 A2 3 (hf.more hg) (hG.more hg) Wf 1 0 (0,0) (by decide) (by decide) P1 k hk 0 (by
   have:k=0∨k=1∨k=2:=by simp [Dv,J1] at hk;omega
   rcases this with rfl | rfl | rfl<;>decide))
  (fun k x hk hx=>by
   obtain ⟨⟨a1,a2⟩,⟨b1,b2⟩,h3⟩:=Z1 k hk x hx
   exact ⟨⟨x.row.toNat,by omega,by omega⟩,⟨x.kind.toNat,by omega,by omega⟩,h3⟩) U3 (by decide) (by decide)
 have e1:Fm (C6 (fun k=>At Dv k) Dv.devs.length) 3=0:=A09
 have e2:G1 (C6 (fun k=>At Dv k) Dv.devs.length) 3=Hj:=rfl
 rw [e1,e2,S3] at h
 exact h
theorem Kw (w:World) (A1 A2:Option Addr) (hf:FlatAt w Dv A1 3 A2 3) (hG:GlobOK w) :
  Calls Tryz.prog 30 #[.agg #[.slice A1 3 3,.slice A2 3 3,.int .i64 1,.int .i64 0,.int .i64 1],.int .i64 3] w fun e w'=>∃ v,e=.returned (.tuple #[v,.int .i64 0])∧IntRow w' v [5000000000,0,0]∧w.grownBy w' none:=by
 have h:=Nd w Dv A1 3 A2 3 hf hG Wf 3 (fun k hk hs=>by
  have:k=0∨k=1∨k=2:=by simp [Dv,J1] at hk;omega
  rcases this with rfl | rfl | rfl
  ·exact ⟨by decide,by decide +kernel,Wi⟩
  ·exact absurd hs (by decide)
  ·exact absurd hs (by decide))
 refine Calls.mono h ?_
 rintro e w' ⟨v,rfl,h1,h2⟩
 have e2:srcs Dv.devs 3 Dv.devs.length=[5000000000,0,0]:=Wh
 rw [e2] at h1
 exact ⟨v,rfl,h1.introw (by simp [I64]),h2⟩
end
section
open Go.RowKit Go.Maps
set_option maxRecDepth 100000 in
theorem Kg (w:World) (neg:Bool) (v1 v2:Value) (xs:List Nat) (hx:Nums w v1 xs) (hy:Nums w v2 xs) :
  Calls Tryz.prog 34 #[.agg #[.bool neg,v1],.agg #[.bool neg,v2]] w fun e w'=>e=.returned (.bool true)∧w.grownBy w' none:=by
 obtain ⟨A1,c1,rfl,_⟩:=hx.form
 obtain ⟨A2,c2,rfl,hl,hl2⟩:=hy.form
 have g1:=Af w (.cells #[.bool neg,.slice A1 xs.length c1] 49) none
 have g2:=Af (w.alloc (.cells #[.bool neg,.slice A1 xs.length c1] 49)) (.cells #[.bool neg,.slice A2 xs.length c2] 49) none
 have gw:=Ae g1 g2
 have HGW:=Ac gw
 have HC:=Ac (Hh ((w.alloc (.cells #[.bool neg,.slice A1 xs.length c1] 49)).alloc (.cells #[.bool neg,.slice A2 xs.length c2] 49)) neg _ _ xs (hx.more gw) (hy.more gw))
 clear hx hy g1 g2 gw
 go_enter Tryz.func34,Tryz.ntmps34
 go_wp2_with fail
 refine HC.out.mono ?_
 rintro e w1 ⟨rfl,hg⟩
 go_wp2_with fail
 go_ret
 exact ⟨rfl,Ae HGW.out hg⟩
end
section
open Go Go.RowKit
section
variable {P:Program} {md:Region.Mode} {ops:Array Oper} {Q:Exit→Act→World→Prop} {S:World→Prop} {z:Nat}
def wpT (P:Program) (md:Region.Mode) (ops:Array Oper) (Q:Exit→Act→World→Prop) (S:World→Prop) (z:Nat) (n:Nat) (l:Array Bool) (a:Act) (w:World):Prop :=
 match n with
 | 0=>Region.ready md ops l=[]∧Q .normal a w
 | n+1=>(Region.ready md ops l=[]→Q .normal a w)∧
  ∀ i∈Region.ready md ops l,wpOp P ops Q i (fun a' w'=>(i≠z→S w')∧wpT P md ops Q S z n (l.setIfInBounds i true) a' w') a w
theorem wpT.any:∀ {n:Nat} {l:Array Bool} {a:Act} {w:World},wpT P md ops Q S z n l a w→wpAny P md ops Q n l a w
 | 0,_,_,_,h=>h
 | _+1,_,_,_,h=>⟨h.1,fun i hi=>wpOp_mono (fun _ _ k=>k.2.any) (h.2 i hi)⟩
theorem A3t {id:Nat} {a:Act} {w:World} (hm:P.follows .mixedOrders=true) (h:wpT P .any ops Q S z ops.size (Array.replicate ops.size false) a w.drew):(Code.region id ops true).wp P Q a w :=
 wp_region_any hm h.any
theorem O4 {l:Array Bool} {i:Nat} (h:l.getD i true=false):l.getD i false=false:=by
 by_cases hi:i<l.size
 ·simp [hi] at h ⊢;exact h
 ·simp [Array.getElem?_eq_none (Nat.le_of_not_lt hi)] at h
theorem Sp {i:Nat} {oi:Oper} {rest:List Oper} (h:ops.toList.drop i=oi::rest):ops[i]? = some oi:=by
 rw [←Array.getElem?_toList,←Nat.add_zero i,←List.getElem?_drop,h];rfl
theorem A3z {l:Array Bool} {a:Act} {w:World} {n:Nat} (hr:Region.ready md ops l=[]) (h:Q .normal a w):wpT P md ops Q S z n l a w:=by
 cases n with
 | zero=>exact ⟨hr,h⟩
 | succ n=>exact ⟨fun _=>h,by rw [hr];simp⟩
end
end
section
open Go.RowKit Go.Maps
theorem dm2:digs (-2)=[2]:=by decide +kernel
theorem Zu (W:World) (T:TypeId):SysRow (W.alloc (.cells #[.bool false,.slice none 0 0,.slice none 0 0,.slice none 0 0,.slice none 0 0,.bool false,.slice none 0 0] T)) (.slice (some ⟨W.heap.size,0,none⟩) 1 1) [row0]:=by
 have hb:=Blk.new W #[.bool false,.slice none 0 0,.slice none 0 0,.slice none 0 0,.slice none 0 0,.bool false,.slice none 0 0] T
 have hc:∀ w,CellRow w (.slice none 0 0) []:=fun w=>⟨none,0,rfl,by simp,by omega,fun h=>by simp at h⟩
 refine ⟨_,_,rfl,by simp,by simp,fun _=>⟨W.heap.size,0,rfl,fun i hi=>?_⟩⟩
 obtain rfl:i=0:=by simp at hi;omega
 refine ⟨_,⟨.slice none 0 0,.slice none 0 0,.slice none 0 0,.slice none 0 0,.slice none 0 0,rfl,Nums.nil _,hc _,hc _,hc _,Nums.nil _⟩,fun j hj=>?_⟩
 rw [show 0+0*7+j=j by omega,hb.cell]
 rcases j with _ | _ | _ | _ | _ | _ | _ | j<;>first | rfl | omega
set_option maxRecDepth 100000 in
theorem Rw (w:World) (hG:GlobOK w) :
  Calls Tryz.prog 13 #[] w fun e w'=>e=.returned (.bool true)∧w.grownBy w' none:=by
 have HG:=Ac hG
 clear hG
 go_enter Tryz.func13,Tryz.ntmps13
 go_wp2_with fail
 refine (Jv w).mono ?_
 rintro e w1 ⟨A1,A2,rfl,hf,hg1⟩
 have HC:=Ac (My w1 A1 A2 hf (HG.out.more hg1))
 have HG1:=Ac hg1
 clear hf hg1
 go_wp2_with fail
 refine HC.out.mono ?_
 rintro e w2 ⟨A,c,rfl,hs,hg2⟩
 have HS:=Ac hs
 have HG2:=Ac (Ae HG1.out hg2)
 clear hs hg2 HC
 have ga:=Af w2 (.cells #[.slice A 3 c] 38) none
 have hB:=Blk.new w2 #[.slice A 3 c] 38
 have HB:=Ac hB
 have HS:=Ac (HS.out.more ga)
 have HG3:=Ac (Ae HG2.out ga)
 clear ga hB
 go_wp2_with fail
 generalize w2.alloc (.cells #[.slice A 3 c] 38)=w3 at HB HS HG3 ⊢
 generalize w2.heap.size=sb at HB ⊢
 refine (Jv w3).mono ?_
 rintro e w4 ⟨B1,B2,rfl,hf,hg4⟩
 have HG4:=Ac (Ae HG3.out hg4)
 have HC:=Ac (Kw w4 B1 B2 hf (HG.out.more HG4.out))
 have HB4:=Ac (HB.out.more hg4)
 have HS4:=Ac (HS.out.more hg4)
 clear hf hg4 HB HS
 go_wp2_with fail
 refine HC.out.mono ?_
 rintro e w5 ⟨v5,rfl,hv5,hg5⟩
 obtain ⟨A5,c5,rfl,_⟩:=id hv5.ctor
 have HV5:=Ac hv5
 have HB5:=Ac (HB4.out.more hg5)
 have HS5:=Ac (HS4.out.more hg5)
 have HG5:=Ac (Ae HG4.out hg5)
 have c0:=HB5.out.cell 0
 clear hv5 hg5 HB4 HS4 HC
 have ga:=Af w5 (.cells #[.int .i64 0,.int .i64 0,.int .i64 0] 2) none
 have hp:IntRow (w5.alloc (.cells #[.int .i64 0,.int .i64 0,.int .i64 0] 2)) (.slice (some ⟨w5.heap.size,0,none⟩) 3 3) [0,0,0]:=Ku (l:=[0,0,0]) (Blk.new w5 #[.int .i64 0,.int .i64 0,.int .i64 0] 2) (by simp) (by simp [I64])
 have hc:=W9 (w5.alloc (.cells #[.int .i64 0,.int .i64 0,.int .i64 0] 2)) (.slice A 3 c) _ (.slice A5 3 c5) Hj [0,0,0] [5000000000,0,0] (HS5.out.more ga) hp (HV5.out.more ga)
 rw [Yj,Lp.1] at hc
 have HC:=Ac hc
 have HB6:=Ac (HB5.out.more ga)
 have HS6:=Ac (HS5.out.more ga)
 have HG6:=Ac (Ae HG5.out ga)
 clear hc hp ga HB5 HS5
 go_wp2_with fail
 refine HC.out.mono ?_
 rintro e w7 ⟨A7,c7,rfl,hz,hg7⟩
 have HZ:=Ac hz
 have HB7:=Ac (HB6.out.more hg7)
 have HS7:=Ac (HS6.out.more hg7)
 have HG7:=Ac (Ae HG6.out hg7)
 have c0:=HB7.out.cell 0
 clear hz hg7 HB6 HS6 HC
 have hlen:(3:Nat)=Hj.length:=S3.symm
 obtain ⟨b,o,Am,nm,cm,Aa,ca,Ah,ch,As,cs,Ak,nk,ck,rfl,q0,q1,q2,q3,q4,q5,q6,rm,ra,rh,rs,rk⟩:=HS7.out.at (i:=1) (by rw [←hlen];omega)
 rw [K7.1] at q2
 have QS:=Ac (And.intro q0 (And.intro q1 q2))
 have RM:=Ac rm
 have RA:=Ac ra
 clear q0 q1 q3 q4 q5 q6 rm ra rh rs rk hlen
 simp only [Nat.one_mul] at q2
 go_upto_region 6 with (fail)
 have RA2:CellRow w7 (.slice Aa 2 ca) (Hj.getD 1 row0).a:=by have:=RA.out;rwa [K7.1] at this
 obtain ⟨b3,o3,A3,n3,k3,hA3,_,x0,x1,x2,xn⟩:=RA2.at (i:=0) (by rw [K7.1];omega)
 obtain ⟨b4,o4,A4,n4,k4,hA4,_,y0,y1,y2,yn⟩:=RA2.at (i:=1) (by rw [K7.1];omega)
 obtain ⟨b6,A6,n6,k6,hA6,z0,z1,zn⟩:=HZ.out.at (i:=2) (by rw [Lp.1];omega)
 subst hA3
 injection hA4 with hA4
 injection hA4 with e1 e2
 subst e1 e2
 subst hA6
 obtain ⟨q0,q1,q2⟩:=QS.out
 rw [Yi.1] at q0
 rw [K7.2.1] at x1
 rw [K7.2.2.2] at y0
 simp only [Nat.zero_mul,Nat.one_mul,Nat.add_zero,Nat.reduceMul,Nat.reduceAdd] at q0 q1 q2 x0 x1 x2 y0 y1 y2 z0 z1
 rw [Lp.2] at z0 zn
 rw [K7.2.2.1] at xn
 have rm:=RM.out
 rw [Yi.2] at rm
 simp at z0
 have HK:∀ W,w7.grownBy W none→W.cell? ⟨sb,0,none⟩=some (.slice (some ⟨b,o,none⟩) 3 c)∧W.cell? ⟨b,o+7,none⟩=some (.bool false)∧W.cell? ⟨b,o+7+1,none⟩=some (.slice Am nm cm)∧W.cell? ⟨b,o+7+2,none⟩=some (.slice (some ⟨b3,o3,none⟩) 2 ca)∧W.cell? ⟨b3,o3+1,none⟩=some (.bool true)∧W.cell? ⟨b3,o3+2,none⟩=some (.slice A3 n3 k3)∧W.cell? ⟨b3,o3+3,none⟩=some (.int .i64 1)∧W.cell? ⟨b6,4,none⟩=some (.bool false)∧W.cell? ⟨b6,5,none⟩=some (.slice A6 n6 k6):=fun W h=>⟨Aj h c0 (by simp),Aj h q0 (by simp),Aj h q1 (by simp),Aj h q2 (by simp),Aj h x1 (by simp),Aj h x2 (by simp),Aj h y0 (by simp),Aj h z0 (by simp),Aj h z1 (by simp)⟩
 have HKK:=Ac HK
 have RMH:=Ac rm
 have XNH:=Ac xn
 have ZNH:=Ac zn
 clear HK rm xn yn zn HZ HB7 HS7 RM RA RA2 QS
 go_region_held3 (fun W=>W.cell? ⟨sb,0,none⟩=some (.slice (some ⟨b,o,none⟩) 3 c)∧W.cell? ⟨b,o+7,none⟩=some (.bool false)∧W.cell? ⟨b,o+7+1,none⟩=some (.slice Am nm cm)∧W.cell? ⟨b,o+7+2,none⟩=some (.slice (some ⟨b3,o3,none⟩) 2 ca)∧W.cell? ⟨b3,o3+1,none⟩=some (.bool true)∧W.cell? ⟨b3,o3+2,none⟩=some (.slice A3 n3 k3)∧W.cell? ⟨b3,o3+3,none⟩=some (.int .i64 1)∧W.cell? ⟨b6,4,none⟩=some (.bool false)∧W.cell? ⟨b6,5,none⟩=some (.slice A6 n6 k6)) ((refine HKK.out _ ?_;(focus ((repeat (first | assumption | exact Al _ _ | exact Ai _ _ | exact Af _ _ _ | refine Ae ?_ (Af _ _ _) | refine Ae ?_ (Ai _ _) | refine Ae ?_ (by assumption)));done))))
  (first
  | (go_at_call_of 35 (Value.int .i64 2000);refine (Lo _ 2000 (by omega) (by omega)).mono ?_;rintro e w8 ⟨s1,rfl,hn1,hf1,hg8⟩;rw [show digs 2000=[2000] by decide +kernel] at hn1)
  | (go_at_call_of 34 (Value.agg #[.bool false,.slice Am nm cm]);refine (Kg _ false _ _ [2000] (RMH.out.more (by (focus ((repeat (first | assumption | exact Al _ _ | exact Ai _ _ | exact Af _ _ _ | refine Ae ?_ (Af _ _ _) | refine Ae ?_ (Ai _ _) | refine Ae ?_ (by assumption)));done)))) hn1).mono ?_;rintro e w9 ⟨rfl,hg9⟩)
  | (go_at_call_of 35 (Value.int .i64 5000000000);refine (Lo _ 5000000000 (by omega) (by omega)).mono ?_;rintro e w12 ⟨s3,rfl,hn3,hf3,hg12⟩)
  | (go_at_call 35;refine (Lo _ (-2) (by decide) (by decide)).mono ?_;rintro e w10 ⟨s2,rfl,hn2,hf2,hg10⟩;rw [dm2] at hn2)
  | (go_at_call_of 34 (Value.agg #[.bool true,.slice A3 n3 k3]);refine (Kg _ true _ _ [2] (XNH.out.more (by (focus ((repeat (first | assumption | exact Al _ _ | exact Ai _ _ | exact Af _ _ _ | refine Ae ?_ (Af _ _ _) | refine Ae ?_ (Ai _ _) | refine Ae ?_ (by assumption)));done)))) hn2).mono ?_;rintro e w11 ⟨rfl,hg11⟩)
  | (go_at_call_of 34 (Value.agg #[.bool false,.slice A6 n6 k6]);refine (Kg _ false _ _ (digs 5000000000) (ZNH.out.more (by (focus ((repeat (first | assumption | exact Al _ _ | exact Ai _ _ | exact Af _ _ _ | refine Ae ?_ (Af _ _ _) | refine Ae ?_ (Ai _ _) | refine Ae ?_ (by assumption)));done)))) hn3).mono ?_;rintro e w13 ⟨rfl,hg13⟩)
  | (go_at_call 27;refine (Ix _ _ [row0] (Zu _ _)).mono ?_;rintro e w14 ⟨rfl,hg14⟩;rw [Wj])
  | (fail))
 all_goals
  go_wp2_with fail
  go_ret
  exact ⟨rfl,Ae HG7.out (by (focus ((repeat (first | assumption | exact Al _ _ | exact Ai _ _ | exact Af _ _ _ | refine Ae ?_ (Af _ _ _) | refine Ae ?_ (Ai _ _) | refine Ae ?_ (by assumption)));done)))⟩
end
end Go.Proofs.YtckbiimikeiejaaGreatDoor
