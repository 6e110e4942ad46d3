/- WavP WavC WavD. -/
import Derived.Test.YtckbiimikeiejaaGreatDoorMbc
import Derived.Test.YtckbiimikeiejaaGreatDoorMaq
import Derived.Test.YtckbiimikeiejaaGreatDoorMae
import Derived.Test.YtckbiimikeiejaaGreatDoorMau
import Derived.Deep.RegionHeld3
import Derived.Deep.DeepCutAuto
import Derived.BigRegion
import Derived.BigQuiet
set_option linter.unusedVariables false
set_option linter.unusedSimpArgs false
set_option maxHeartbeats 40000000
namespace Go.Proofs.YtckbiimikeiejaaGreatDoor
section
open Go.RowKit
open Rat
def vQ (vals:List (Int × Int)) (i:Nat):Rat:=numQ (vals.getD i (0,0)).1 (vals.getD i (0,0)).2
def btwQ (p q:Rat) (k n:Int):Rat:=(q-p)*(k /. n)+p
def Bn (vals:List (Int × Int)) (s:List Int) (step:Int):Rat :=
 if step<s.getD 0 0 then vQ vals 0 else
 if (step-s.getD 0 0).tmod (s.getD 4 0)<s.getD 1 0 then btwQ (vQ vals 0) (vQ vals 1) ((step-s.getD 0 0).tmod (s.getD 4 0)) (s.getD 1 0)
 else if (step-s.getD 0 0).tmod (s.getD 4 0)<s.getD 1 0+s.getD 2 0 then vQ vals 1
 else if (step-s.getD 0 0).tmod (s.getD 4 0)<s.getD 1 0+s.getD 2 0+s.getD 3 0 then btwQ (vQ vals 1) (vQ vals 0) ((step-s.getD 0 0).tmod (s.getD 4 0)-s.getD 1 0-s.getD 2 0) (s.getD 3 0)
 else vQ vals 0
def cntS:List Int→Int→Nat
 | [],_=>0
 | x::l,step=>if x≤step then cntS l step+1 else 0
def pwlQ (vals:List (Int × Int)) (s:List Int) (step:Int):Rat :=
 if cntS s step=0 then vQ vals 0 else if cntS s step=s.length then vQ vals (cntS s step-1)
 else btwQ (vQ vals (cntS s step-1)) (vQ vals (cntS s step)) (step-s.getD (cntS s step-1) 0) (s.getD (cntS s step) 0-s.getD (cntS s step-1) 0)
def Ax (kind:Int) (vals:List (Int × Int)) (s:List Int) (step:Int):Rat :=
 if kind=1 then vQ vals 0 else if kind=2 then Bn vals s step else if kind=3 then pwlQ vals s step else vQ vals (step.tmod vals.length).toNat
def Y0 (q:Rat):Int:=if OnG (Ja q.num q.den) then Ja q.num q.den else 0
def Y4 (q:Rat):Int:=if OnG (Ja q.num q.den) then 0 else 4
def atE (kind:Int) (vals:List (Int × Int)) (s:List Int) (step:Int):Int:=if Di kind vals s then (if step<0∨1000000000<step then 4 else Y4 (Ax kind vals s step*nano)) else 40
def atV (kind:Int) (vals:List (Int × Int)) (s:List Int) (step:Int):Int:=if Di kind vals s then (if step<0∨1000000000<step then 0 else Y0 (Ax kind vals s step*nano)) else 0
theorem A2u:∀ (l:List Int) (step:Int),cntS l step≤l.length
 | [],_=>Nat.le_refl _
 | x::l,step=>by
  unfold cntS
  split
  ·have:=A2u l step;rw [List.length_cons];omega
  ·exact Nat.zero_le _
theorem A2v:∀ (l:List Int) (step:Int) (i:Nat),i<cntS l step→l.getD i 0≤step
 | [],_,i,h=>by simp [cntS] at h
 | x::l,step,i,h=>by
  unfold cntS at h
  split at h
  ·cases i with
   | zero=>simpa
   | succ i=>simpa using A2v l step i (by omega)
  ·omega
theorem A3f:∀ (l:List Int) (step:Int),cntS l step<l.length→step<l.getD (cntS l step) 0
 | [],_,h=>by simp [cntS] at h
 | x::l,step,h=>by
  unfold cntS at h ⊢
  split
  ·rename_i hx
   rw [if_pos hx,List.length_cons] at h
   simpa using A3f l step (by omega)
  ·rename_i hx
   simpa using Int.not_le.1 hx
theorem Y3 {l:List Int} {step:Int} {i:Nat} (h1:∀ j,j<i→l.getD j 0≤step) (h2:i≤l.length) (h3:i<l.length→step<l.getD i 0):cntS l step=i:=by
 have a:=A2u l step
 rcases Nat.lt_trichotomy (cntS l step) i with h | h | h
 ·have b:=A3f l step (by omega)
  have:=h1 _ h
  omega
 ·exact h
 ·have b:=A2v l step i h
  have:=h3 (by omega)
  omega
theorem Bm {vals:List (Int × Int)} (h:vals.all Bu=true) (i:Nat):NumOK (vals.getD i (0,0)).1 (vals.getD i (0,0)).2:=by
 by_cases hi:i<vals.length
 ·rw [List.all_eq_true] at h
  have:=h _ (List.getElem_mem hi)
  rw [List.getD_eq_getElem?_getD,List.getElem?_eq_getElem hi]
  simpa [Bu] using this
 ·rw [List.getD_eq_getElem?_getD,List.getElem?_eq_none (by omega)]
  exact .inl ⟨rfl,rfl⟩
theorem A3c {vals:List (Int × Int)} (h:vals.all Bu=true) (i:Nat):LimQ (vQ vals i) 3:=Ba (Bm h i)
theorem Y2 {k n:Int} (h1:k.natAbs≤2000000000) (h2:n.natAbs≤2000000000) (hn:n≠0):LimQ (k /. n) 1:=LimQ.divInt hn (Hv (by omega)) (Hv (by omega))
theorem A2d {p q:Rat} {k n:Int} (hp:LimQ p 3) (hq:LimQ q 3) (h1:k.natAbs≤2000000000) (h2:n.natAbs≤2000000000) (hn:n≠0):LimQ (btwQ p q k n) 29:=by
 have a:=(LimQ.sub hq hp).mono (show 2*3+1≤7 by omega)
 have b:=(LimQ.mul a ((Y2 h1 h2 hn).mono (by omega))).mono (show 2*7≤14 by omega)
 exact (LimQ.add b (hp.mono (by omega))).mono (by omega)
theorem W5:LimQ nano 3:=by
 refine LimQ.divInt (by omega) ?_ ?_<;>exact Nat.le_trans (Hv (by decide)) (by omega)
theorem X0 {vals:List (Int × Int)} {s:List Int} (h:Di 2 vals s):(vals.length=2∧s.length=5∧1≤s.getD 4 0∧s.getD 1 0+s.getD 2 0+s.getD 3 0≤s.getD 4 0)∧(∀ i,0≤s.getD i 0∧s.getD i 0≤1000000000):=by
 obtain ⟨h1,h2,h3⟩:=h
 unfold Cc at h3
 rw [if_neg (by decide),if_pos rfl] at h3
 refine ⟨h3,fun i=>?_⟩
 by_cases hi:i<s.length
 ·exact h2 i hi
 ·rw [List.getD_eq_getElem?_getD,List.getElem?_eq_none (by omega)];simp
theorem X6 {vals:List (Int × Int)} {s:List Int} (h:Di 3 vals s):(vals.length=s.length∧1≤vals.length∧vals.length≤16)∧(∀ i,i<s.length→1≤i→s.getD (i-1) 0<s.getD i 0)∧(∀ i,0≤s.getD i 0∧s.getD i 0≤1000000000):=by
 obtain ⟨h1,h2,h3⟩:=h
 unfold Cc at h3
 rw [if_neg (by decide),if_neg (by decide),if_pos rfl] at h3
 refine ⟨h3.2,h3.1,fun i=>?_⟩
 by_cases hi:i<s.length
 ·exact h2 i hi
 ·rw [List.getD_eq_getElem?_getD,List.getElem?_eq_none (by omega)];simp
theorem Bs {a m:Int} (ha:0≤a) (hm:1≤m):0≤a.tmod m∧a.tmod m<m:=⟨Int.tmod_nonneg _ ha,Int.tmod_lt_of_pos _ (by omega)⟩
theorem A3b {vals:List (Int × Int)} {s:List Int} (h:Di 2 vals s) (step:Int):LimQ (Bn vals s step) 29:=by
 obtain ⟨⟨h1,h2,h3,h4⟩,h5⟩:=X0 h
 have v:=A3c h.1
 unfold Bn
 split
 ·exact (v 0).mono (by omega)
 rename_i hs
 have ht:=Bs (a:=step-s.getD 0 0) (m:=s.getD 4 0) (by omega) h3
 have b1:=h5 1
 have b2:=h5 2
 have b3:=h5 3
 have b4:=h5 4
 generalize (step-s.getD 0 0).tmod (s.getD 4 0)=t at *
 split
 ·exact A2d (v 0) (v 1) (by omega) (by omega) (by omega)
 split
 ·exact (v 1).mono (by omega)
 split
 ·exact A2d (v 1) (v 0) (by omega) (by omega) (by omega)
 ·exact (v 0).mono (by omega)
theorem A2z {vals:List (Int × Int)} {s:List Int} (h:Di 3 vals s) {step:Int} (hs:0≤step∧step≤1000000000) {i:Nat} (hi:i<s.length) (h0:i≠0) (h1:s.getD (i-1) 0≤step) :
  0≤step-s.getD (i-1) 0∧step-s.getD (i-1) 0≤1000000000∧0<s.getD i 0-s.getD (i-1) 0∧s.getD i 0-s.getD (i-1) 0≤1000000000:=by
 obtain ⟨_,h2,h3⟩:=X6 h
 have a:=h2 i hi (by omega)
 have b:=h3 i
 have c:=h3 (i-1)
 omega
theorem A3r {vals:List (Int × Int)} {s:List Int} (h:Di 3 vals s) {step:Int} (hs:0≤step∧step≤1000000000):LimQ (pwlQ vals s step) 29:=by
 have v:=A3c h.1
 unfold pwlQ
 split
 ·exact (v _).mono (by omega)
 split
 ·exact (v _).mono (by omega)
 ·rename_i h0 h1
  have hle:=A2u s step
  have:=A2z h hs (i:=cntS s step) (by omega) h0 (A2v s step _ (by omega))
  exact A2d (v _) (v _) (by omega) (by omega) (by omega)
theorem A2f {kind:Int} {vals:List (Int × Int)} {s:List Int} (h:Di kind vals s) {step:Int} (hs:0≤step∧step≤1000000000):LimQ (Ax kind vals s step) 29:=by
 unfold Ax
 have v:=A3c h.1
 split
 ·exact (v _).mono (by omega)
 split
 ·rename_i e;subst e;exact A3b h step
 split
 ·rename_i e;subst e;exact A3r h hs
 ·exact (v _).mono (by omega)
theorem A3m {kind:Int} {vals:List (Int × Int)} {s:List Int} (h:Di kind vals s) {step:Int} (hs:0≤step∧step≤1000000000):LimQ (Ax kind vals s step*nano) 58 :=
 (LimQ.mul (A2f h hs) (W5.mono (by omega))).mono (by omega)
theorem A3s {q:Rat} (h:LimQ q 72):ratE (decide (q.num<0)) false (digs q.num) (digs (q.den:Int))=0:=by
 unfold ratE
 have h1:=A2e q.num h.1
 have h2:=A2e (q.den:Int) h.2
 have hd:decide ((q.den:Int)<0)=false:=by rw [decide_eq_false_iff_not];omega
 rw [hd] at h2
 rw [if_pos ⟨h1,h2⟩,if_neg]
 rintro (h | h | h)
 ·cases h
 ·have:=By (q.den:Int)
  rw [h] at this
  have hp:=q.den_pos
  simp [val] at this
  omega
 ·rw [By,By] at h
  exact h q.reduced
theorem A44 {q:Rat} (h:LimQ q 72):rdV q=Y0 q∧rdE q=Y4 q:=by
 unfold rdV rdE Of Oe Y0 Y4
 rw [A3s h,if_pos rfl,if_pos rfl,By,By]
 have e1:sg (decide (q.num<0)) q.num.natAbs=q.num:=by
  unfold sg
  by_cases hn:q.num<0
  ·rw [decide_eq_true hn];simp;omega
  ·rw [decide_eq_false hn];simp;omega
 have e2:sg false ((q.den:Int).natAbs)=(q.den:Int):=by simp [sg]
 rw [e1,e2]
 exact ⟨rfl,rfl⟩
end
section
open Go.RowKit
open Rat
set_option maxRecDepth 100000 in
theorem K4 (w:World) (m1 e1 m2 e2 k n:Int) (h1:NumOK m1 e1) (h2:NumOK m2 e2) (hk:k.natAbs≤2000000000) (hn:n.natAbs≤2000000000) (h0:n≠0) :
  Calls Tryz.prog 236 #[.agg #[.int .i64 m1,.int .i64 e1],.agg #[.int .i64 m2,.int .i64 e2],.int .i64 k,.int .i64 n] w fun o w'=>∃ b,o=.returned (.pointer (some ⟨b,0,none⟩))∧RatB w' b (btwQ (numQ m1 e1) (numQ m2 e2) k n)∧w.heap.size≤b∧w.grownBy w' none:=by
 have hB1:=(Blk.new w #[.int .i64 m1,.int .i64 e1] 25).more (Af _ (.cells #[.int .i64 m2,.int .i64 e2] 25) none)
 have hB2:=Blk.new (w.alloc (.cells #[.int .i64 m1,.int .i64 e1] 25)) #[.int .i64 m2,.int .i64 e2] 25
 rw [World.size_alloc] at hB2
 have HGW:=Ac (Ae (Af w (.cells #[.int .i64 m1,.int .i64 e1] 25) none) (Af _ (.cells #[.int .i64 m2,.int .i64 e2] 25) none))
 obtain ⟨x0,x1,_⟩:=hB1.two
 obtain ⟨y0,y1,_⟩:=hB2.two
 have l1:=Ba h1
 have l2:=Ba h2
 have l3:=(LimQ.sub l2 l1).mono (show 2*3+1≤7 by omega)
 have l4:=(Y2 hk hn h0).mono (show 1≤7 by omega)
 have HL:Hid (LimQ (numQ m1 e1) 14∧LimQ (numQ m2 e2) 3∧LimQ (numQ m1 e1) 3∧LimQ (numQ m2 e2-numQ m1 e1) 7∧LimQ (k /. n) 7∧LimQ ((numQ m2 e2-numQ m1 e1)*(k /. n)) 14):=Ac ⟨l1.mono (by omega),l2,l1,l3,l4,(LimQ.mul l3 l4).mono (by omega)⟩
 have HV1:=Ac (fun W=>Rb W m1 e1 h1)
 have HV2:=Ac (fun W=>Rb W m2 e2 h2)
 have HNR:=Ac (fun W=>F7 W k n (by omega) (by omega) (by omega) (by omega) h0)
 have HBT:Hid (btwQ (numQ m1 e1) (numQ m2 e2) k n=(numQ m2 e2-numQ m1 e1)*(k /. n)+numQ m1 e1):=Ac rfl
 clear hB1 hB2 l1 l2 l3 l4 h1 h2 hk hn h0
 generalize btwQ (numQ m1 e1) (numQ m2 e2) k n=R at *
 generalize numQ m1 e1=p at *
 generalize numQ m2 e2=q at *
 generalize k /. n=t at *
 go_enter Tryz.func236,Tryz.ntmps236
 go_wp2_with fail
 generalize (w.alloc (.cells #[.int .i64 m1,.int .i64 e1] 25)).alloc (.cells #[.int .i64 m2,.int .i64 e2] 25)=wa at *
 generalize hs:w.heap.size=s at *
 have HS0:=Ac hs
 clear hs
 refine (HV1.out wa).mono ?_
 rintro e w1 ⟨b1,rfl,hr1,hb1,hg1⟩
 have hs:s≤wa.heap.size:=by have:=HGW.out;exact Nat.le_of_lt (by have:=Dp x0;omega)
 have HG1:=Ac (Ae hg1 (Af w1 (.cells #[.bool false,.slice none 0 0,.bool false,.slice none 0 0] 190) none))
 have HR1:=Ac (hr1.more (Af w1 (.cells #[.bool false,.slice none 0 0,.bool false,.slice none 0 0] 190) none))
 have HZ:=Ac (RatB.new w1 190)
 have HS:Hid (s≤b1∧b1<w1.heap.size∧s≤w1.heap.size):=Ac ⟨by omega,hr1.lt,by have:=hg1.size;omega⟩
 have y0:=Aj HG1.out y0 (by simp)
 have y1:=Aj HG1.out y1 (by simp)
 clear hr1 hb1 hg1 x0 x1 hs
 go_wp2_with fail
 generalize w1.alloc (.cells #[.bool false,.slice none 0 0,.bool false,.slice none 0 0] 190)=w2 at *
 generalize w1.heap.size=z at *
 refine (HV2.out w2).mono ?_
 rintro e w3 ⟨b2,rfl,hr3,hb3,hg3⟩
 have HR3:=Ac hr3
 have HZ:=Ac (HZ.out.more hg3)
 have HR1:=Ac (HR1.out.more hg3)
 have HG3:=Ac (Ae HG1.out hg3)
 clear hr3 hb3 hg3 y0 y1
 go_wp2_with fail
 refine (U6 w3 z b2 b1 0 q p HZ.out HR3.out HR1.out 3 (by omega) HL.out.2.1 HL.out.2.2.1).mono ?_
 rintro e w4 ⟨rfl,hr4,hg4⟩
 have HR1:=Ac (HR1.out.other hg4 HZ.out.plain (by have:=HS.out;omega))
 have HG4:=Ac (Aw (Ae HGW.out HG3.out) hg4 (by have:=HS.out;have:=HS0.out;omega))
 have HR4:=Ac hr4
 clear hr4 hg4
 go_wp2_with fail
 refine (HNR.out w4).mono ?_
 rintro e w5 ⟨b5,rfl,hr5,hb5,hg5⟩
 have HR5:=Ac hr5
 have HR1:=Ac (HR1.out.more hg5)
 have HR4:=Ac (HR4.out.more hg5)
 have HG5:=Ac (Ae HG4.out hg5)
 clear hr5 hb5 hg5
 go_wp2_with fail
 refine (Gl w5 z z b5 _ _ _ HR4.out HR4.out HR5.out 7 (by omega) HL.out.2.2.2.1 HL.out.2.2.2.2.1).mono ?_
 rintro e w6 ⟨rfl,hr6,hg6⟩
 have HR1:=Ac (HR1.out.other hg6 HR4.out.plain (by have:=HS.out;omega))
 have HG6:=Ac (Aw HG5.out hg6 (by have:=HS.out;have:=HS0.out;omega))
 have HR6:=Ac hr6
 clear hr6 hg6
 go_wp2_with fail
 refine (Gk w6 z z b1 _ _ _ HR6.out HR6.out HR1.out 14 (by omega) HL.out.2.2.2.2.2 HL.out.1).mono ?_
 rintro e w7 ⟨rfl,hr7,hg7⟩
 have HG7:=Ac (Aw HG6.out hg7 (by have:=HS.out;have:=HS0.out;omega))
 have HR7:=Ac hr7
 clear hr7 hg7
 go_wp2_with fail
 go_ret
 exact ⟨z,rfl,by rw [HBT.out];exact HR7.out,by have:=HS.out;have:=HS0.out;omega,HG7.out⟩
theorem U0 (w:World) (cs ds:Array Value) (T U:TypeId):Blk ((w.alloc (.cells cs T)).alloc (.cells ds U)).drew w.heap.size cs∧Blk ((w.alloc (.cells cs T)).alloc (.cells ds U)).drew (w.heap.size+1) ds∧w.grownBy ((w.alloc (.cells cs T)).alloc (.cells ds U)).drew none:=by
 have h:=(Blk.new (w.alloc (.cells cs T)) ds U).more (Ai _ none)
 rw [World.size_alloc] at h
 exact ⟨(Blk.new w cs T).more (Ae (Af _ _ _) (Ai _ _)),h,Ae (Af _ _ _) (Ae (Af _ _ _) (Ai _ _))⟩
set_option maxRecDepth 100000 in
theorem A37 (w:World) (vv sv:Value) (vals:List (Int × Int)) (steps:List Int) (step:Int) (hv:NumRow w vv vals) (hs:IntRow w sv steps) (hok:Di 2 vals steps) (hst:0≤step∧step≤1000000000) :
  Calls Tryz.prog 164 #[.agg #[.int .i64 2,vv,sv],.int .i64 step] w fun e w'=>∃ b,e=.returned (.pointer (some ⟨b,0,none⟩))∧RatB w' b (Bn vals steps step)∧w.heap.size≤b∧w.grownBy w' none:=by
 obtain ⟨⟨h1,h2,h3,h4⟩,h5⟩:=X0 hok
 obtain ⟨Av,cv,rfl,_,_⟩:=id hv
 obtain ⟨bv,ov,rfl,q0,q1⟩:=hv.at (i:=0) (by omega)
 obtain ⟨_,_,e',r0,r1⟩:=hv.at (i:=1) (by omega)
 injection e' with e';injection e' with e1 e2 _;subst e1 e2
 obtain ⟨As,cs,rfl,_,_⟩:=hs.ctor
 obtain ⟨bs,os,rfl,_,u0⟩:=hs.at (i:=0) (by omega)
 obtain ⟨_,_,e',_,u1⟩:=hs.at (i:=1) (by omega)
 injection e' with e';injection e' with e1 e2 _;subst e1 e2
 obtain ⟨_,_,e',_,u2⟩:=hs.at (i:=2) (by omega)
 injection e' with e';injection e' with e1 e2 _;subst e1 e2
 obtain ⟨_,_,e',_,u3⟩:=hs.at (i:=3) (by omega)
 injection e' with e';injection e' with e1 e2 _;subst e1 e2
 obtain ⟨_,_,e',_,u4⟩:=hs.at (i:=4) (by omega)
 injection e' with e';injection e' with e1 e2 _;subst e1 e2
 have HN0:=Ac (Bm hok.1 0)
 have HN1:=Ac (Bm hok.1 1)
 have HQ:Hid (Bn vals steps step=_):=Ac rfl
 unfold Bn vQ at HQ
 have b0:=h5 0
 have b1:=h5 1
 have b2:=h5 2
 have b3:=h5 3
 have b4:=h5 4
 obtain ⟨R,hR⟩:∃ R,Bn vals steps step=R:=⟨_,rfl⟩
 unfold Bn vQ at hR
 rw [show Bn vals steps step=R by unfold Bn vQ;exact hR]
 clear HQ
 have HQ:=Ac hR.symm
 have gw:=Af w (.cells #[.int .i64 2,.slice (some ⟨bv,ov,none⟩) vals.length cv,.slice (some ⟨bs,os,none⟩) steps.length cs] 85) none
 have q0:=Aj gw q0 (by simp)
 have q1:=Aj gw q1 (by simp)
 have r0:=Aj gw r0 (by simp)
 have r1:=Aj gw r1 (by simp)
 have u0:=Aj gw u0 (by simp)
 have u1:=Aj gw u1 (by simp)
 have u2:=Aj gw u2 (by simp)
 have u3:=Aj gw u3 (by simp)
 have u4:=Aj gw u4 (by simp)
 have hB:=Blk.new w #[.int .i64 2,.slice (some ⟨bv,ov,none⟩) vals.length cv,.slice (some ⟨bs,os,none⟩) steps.length cs] 85
 have m1:=hB.cell 1
 have m2:=hB.cell 2
 simp only [List.getElem?_toArray,List.getElem?_cons_zero,List.getElem?_cons_succ] at m1 m2
 have HGW:=Ac gw
 have i0:(0:Int)<(vals.length:Int):=by omega
 have i1:(1:Int)<(vals.length:Int):=by omega
 have j0:(0:Int)<(steps.length:Int):=by omega
 have j1:(1:Int)<(steps.length:Int):=by omega
 have j2:(2:Int)<(steps.length:Int):=by omega
 have j3:(3:Int)<(steps.length:Int):=by omega
 have j4:(4:Int)<(steps.length:Int):=by omega
 clear hv hs hok h5 hB h1 h2 hR gw
 generalize steps.getD 0 0=x0 at *
 generalize steps.getD 1 0=x1 at *
 generalize steps.getD 2 0=x2 at *
 generalize steps.getD 3 0=x3 at *
 generalize steps.getD 4 0=x4 at *
 generalize vals.getD 0 (0,0)=p0 at *
 generalize vals.getD 1 (0,0)=p1 at *
 obtain ⟨m0,e0⟩:=p0
 obtain ⟨m1',e1'⟩:=p1
 simp only [Nat.zero_mul,Nat.one_mul,Nat.add_zero] at q0 q1 r0 r1 u0 HN0 HN1 HQ
 generalize vals.length=nv at *
 generalize steps.length=ns at *
 have i0n:0<nv:=by omega
 go_enter Tryz.func164,Tryz.ntmps164
 go_wp2_with fail
 generalize w.alloc (.cells #[.int .i64 2,.slice (some ⟨bv,ov,none⟩) nv cv,.slice (some ⟨bs,os,none⟩) ns cs] 85)=wa at *
 generalize w.heap.size=s at *
 go_upto_region 1 with (fail)
 go_cut [5,6,7] (fun a b c wx=>∃ z1 z2,a=.pointer (some ⟨z1,0,none⟩)∧b=.pointer (some ⟨z2,0,none⟩)∧c=.slice (some ⟨bs,os,none⟩) ns cs∧wa.grownBy wx none∧Hid (Blk wx z1 #[.int .i64 m0,.int .i64 e0]∧Blk wx z2 #[.int .i64 m1',.int .i64 e1']))
 case first =>
  have HKK:=Ac (fun W (h:wa.grownBy W none)=>(⟨Aj h m1 (by simp),Aj h m2 (by simp),Aj h q0 (by simp),Aj h q1 (by simp),Aj h r0 (by simp),Aj h r1 (by simp)⟩:W.cell? ⟨s,1,none⟩=some (.slice (some ⟨bv,ov,none⟩) nv cv)∧W.cell? ⟨s,2,none⟩=some (.slice (some ⟨bs,os,none⟩) ns cs)∧W.cell? ⟨bv,ov,none⟩=some (.int .i64 m0)∧W.cell? ⟨bv,ov+1,none⟩=some (.int .i64 e0)∧W.cell? ⟨bv,ov+2,none⟩=some (.int .i64 m1')∧W.cell? ⟨bv,ov+2+1,none⟩=some (.int .i64 e1')))
  go_region_held3 (fun W=>W.cell? ⟨s,1,none⟩=some (.slice (some ⟨bv,ov,none⟩) nv cv)∧W.cell? ⟨s,2,none⟩=some (.slice (some ⟨bs,os,none⟩) ns cs)∧W.cell? ⟨bv,ov,none⟩=some (.int .i64 m0)∧W.cell? ⟨bv,ov+1,none⟩=some (.int .i64 e0)∧W.cell? ⟨bv,ov+2,none⟩=some (.int .i64 m1')∧W.cell? ⟨bv,ov+2+1,none⟩=some (.int .i64 e1')) (first | exact HKK.out _ (by (focus ((repeat (first | assumption | exact Al _ _ | exact Ai _ _ | exact Af _ _ _ | refine Ae ?_ (Af _ _ _) | refine Ae ?_ (Ai _ _) | refine Ae ?_ (by assumption)));done)))) (fail)
  all_goals
   go_wp2_with fail
   go_meet
   first
   | exact ⟨_,_,rfl,rfl,rfl,(U0 _ _ _ _ _).2.2,Ac ⟨(U0 _ _ _ _ _).1,(U0 _ _ _ _ _).2.1⟩⟩
   | exact ⟨_,_,rfl,rfl,rfl,(U0 _ _ _ _ _).2.2,Ac ⟨(U0 _ _ _ _ _).2.1,(U0 _ _ _ _ _).1⟩⟩
 case rest =>
  obtain ⟨z1,z2,rfl,rfl,rfl,hg,hh⟩:=hcut
  obtain ⟨wk,rfl⟩:∃ wk:World,wk=wc:=⟨_,rfl⟩
  obtain ⟨y0,y1,_⟩:=hh.out.1.two
  obtain ⟨t0,t1,_⟩:=hh.out.2.two
  have u0:=Aj hg u0 (by simp)
  have u1:=Aj hg u1 (by simp)
  have u2:=Aj hg u2 (by simp)
  have u3:=Aj hg u3 (by simp)
  have u4:=Aj hg u4 (by simp)
  have HG2:=Ac (Ae HGW.out hg)
  clear hg hh m1 m2 q0 q1 r0 r1 i0 i1 HGW
  by_cases a0:step<x0
  ·have HR:=Ac (HQ.out.trans (if_pos a0))
   clear HQ
   go_wp2_with fail
   refine (Rb _ m0 e0 HN0.out).mono ?_
   rintro e w3 ⟨b3,rfl,hr3,hb3,hg3⟩
   go_wp2_with fail
   go_ret
   exact ⟨b3,rfl,by rw [HR.out];exact hr3,Nat.le_trans HG2.out.size hb3,Ae HG2.out hg3⟩
  have HQ:=Ac (HQ.out.trans (if_neg a0))
  obtain ⟨t,ht⟩:∃ t,(step-x0).tmod x4=t:=⟨_,rfl⟩
  have htb:=Bs (a:=step-x0) (m:=x4) (by omega) h3
  rw [ht] at HQ htb
  have e1:IntKind.i64.wrap (step-x0)=step-x0:=IntWalk.i64_in _ (by omega)
  have e2:(x4==0)=false:=by rw [beq_eq_false_iff_ne];omega
  have e3:x4≠0:=by omega
  have e4:IntKind.i64.wrap t=t:=IntWalk.i64_in _ (by omega)
  go_wp2_with fail
  go_quiet (fail)
  clear u0 u4 j0 j4
  have HGD:=Ac (Az wk nq none)
  have HG2:=Ac (Ae HG2.out HGD.out)
  have y0:=Aj HGD.out y0 (by simp)
  have y1:=Aj HGD.out y1 (by simp)
  have t0:=Aj HGD.out t0 (by simp)
  have t1:=Aj HGD.out t1 (by simp)
  have u1:=Aj HGD.out u1 (by simp)
  have u2:=Aj HGD.out u2 (by simp)
  have u3:=Aj HGD.out u3 (by simp)
  clear HGD
  generalize wk.drewN nq=wk at *
  by_cases a1:t<x1
  ·have HR:=Ac (HQ.out.trans (if_pos a1))
   have HK:Hid (t.natAbs≤2000000000∧x1.natAbs≤2000000000∧x1≠0):=Ac (by omega)
   have HKK:=Ac (fun W (h:wk.grownBy W none)=>(⟨Aj h y0 (by simp),Aj h y1 (by simp),Aj h t0 (by simp),Aj h t1 (by simp),Aj h u1 (by simp)⟩:W.cell? ⟨z1,0,none⟩=some (.int .i64 m0)∧W.cell? ⟨z1,1,none⟩=some (.int .i64 e0)∧W.cell? ⟨z2,0,none⟩=some (.int .i64 m1')∧W.cell? ⟨z2,1,none⟩=some (.int .i64 e1')∧W.cell? ⟨bs,os+1,none⟩=some (.int .i64 x1)))
   clear HQ u2 u3 b0 b1 b2 b3 b4 h3 h4
   go_wp2_with fail
   go_region_held3 (fun W=>W.cell? ⟨z1,0,none⟩=some (.int .i64 m0)∧W.cell? ⟨z1,1,none⟩=some (.int .i64 e0)∧W.cell? ⟨z2,0,none⟩=some (.int .i64 m1')∧W.cell? ⟨z2,1,none⟩=some (.int .i64 e1')∧W.cell? ⟨bs,os+1,none⟩=some (.int .i64 x1)) (exact HKK.out _ (by (focus ((repeat (first | assumption | exact Al _ _ | exact Ai _ _ | exact Af _ _ _ | refine Ae ?_ (Af _ _ _) | refine Ae ?_ (Ai _ _) | refine Ae ?_ (by assumption)));done)))) ((go_at_call 236;refine (K4 _ m0 e0 m1' e1' t x1 HN0.out HN1.out HK.out.1 HK.out.2.1 HK.out.2.2).mono ?_;rintro e w3 ⟨b3,rfl,hr3,hb3,hg3⟩))
   all_goals
    go_wp2_with fail
    go_ret
    exact ⟨b3,rfl,by rw [HR.out];exact hr3,Nat.le_trans HG2.out.size (by simpa using hb3),Ae HG2.out (by (focus ((repeat (first | assumption | exact Al _ _ | exact Ai _ _ | exact Af _ _ _ | refine Ae ?_ (Af _ _ _) | refine Ae ?_ (Ai _ _) | refine Ae ?_ (by assumption)));done)))⟩
  have HQ:=Ac (HQ.out.trans (if_neg a1))
  have f1:decide (t<x1)=false:=by rw [decide_eq_false_iff_not];exact a1
  have e5:IntKind.i64.wrap (x1+x2)=x1+x2:=IntWalk.i64_in _ (by omega)
  by_cases a2:t<x1+x2
  ·have HR:=Ac (HQ.out.trans (if_pos a2))
   clear HQ
   go_wp2_with fail
   go_quiet (fail)
   have HGD:=Ac (Az wk nq none)
   have HG2:=Ac (Ae HG2.out HGD.out)
   have y0:=Aj HGD.out y0 (by simp)
   have y1:=Aj HGD.out y1 (by simp)
   have t0:=Aj HGD.out t0 (by simp)
   have t1:=Aj HGD.out t1 (by simp)
   have u1:=Aj HGD.out u1 (by simp)
   have u2:=Aj HGD.out u2 (by simp)
   have u3:=Aj HGD.out u3 (by simp)
   clear HGD
   generalize wk.drewN nq=wk at *
   go_wp2_with fail
   refine (Rb _ m1' e1' HN1.out).mono ?_
   rintro e w3 ⟨b3,rfl,hr3,hb3,hg3⟩
   go_wp2_with fail
   go_ret
   exact ⟨b3,rfl,by rw [HR.out];exact hr3,Nat.le_trans HG2.out.size hb3,Ae HG2.out hg3⟩
  have HQ:=Ac (HQ.out.trans (if_neg a2))
  have e6:IntKind.i64.wrap (x1+x2+x3)=x1+x2+x3:=IntWalk.i64_in _ (by omega)
  by_cases a3:t<x1+x2+x3
  ·have HR:=Ac (HQ.out.trans (if_pos a3))
   have HK:Hid ((t-x1-x2).natAbs≤2000000000∧x3.natAbs≤2000000000∧x3≠0):=Ac (by omega)
   have e7:IntKind.i64.wrap (t-x1)=t-x1:=IntWalk.i64_in _ (by omega)
   have e8:IntKind.i64.wrap (t-x1-x2)=t-x1-x2:=IntWalk.i64_in _ (by omega)
   clear HQ
   go_wp2_with fail
   go_quiet (fail)
   have HGD:=Ac (Az wk nq none)
   have HG2:=Ac (Ae HG2.out HGD.out)
   have y0:=Aj HGD.out y0 (by simp)
   have y1:=Aj HGD.out y1 (by simp)
   have t0:=Aj HGD.out t0 (by simp)
   have t1:=Aj HGD.out t1 (by simp)
   have u1:=Aj HGD.out u1 (by simp)
   have u2:=Aj HGD.out u2 (by simp)
   have u3:=Aj HGD.out u3 (by simp)
   clear HGD
   generalize wk.drewN nq=wk at *
   go_wp2_with fail
   go_quiet (fail)
   have HGD:=Ac (Az wk nq none)
   have HG2:=Ac (Ae HG2.out HGD.out)
   have y0:=Aj HGD.out y0 (by simp)
   have y1:=Aj HGD.out y1 (by simp)
   have t0:=Aj HGD.out t0 (by simp)
   have t1:=Aj HGD.out t1 (by simp)
   have u1:=Aj HGD.out u1 (by simp)
   have u2:=Aj HGD.out u2 (by simp)
   have u3:=Aj HGD.out u3 (by simp)
   clear HGD
   generalize wk.drewN nq=wk at *
   have HKK:=Ac (fun W (h:wk.grownBy W none)=>(⟨Aj h y0 (by simp),Aj h y1 (by simp),Aj h t0 (by simp),Aj h t1 (by simp),Aj h u1 (by simp),Aj h u2 (by simp),Aj h u3 (by simp)⟩:W.cell? ⟨z1,0,none⟩=some (.int .i64 m0)∧W.cell? ⟨z1,1,none⟩=some (.int .i64 e0)∧W.cell? ⟨z2,0,none⟩=some (.int .i64 m1')∧W.cell? ⟨z2,1,none⟩=some (.int .i64 e1')∧W.cell? ⟨bs,os+1,none⟩=some (.int .i64 x1)∧W.cell? ⟨bs,os+2,none⟩=some (.int .i64 x2)∧W.cell? ⟨bs,os+3,none⟩=some (.int .i64 x3)))
   go_wp2_with fail
   go_region_held3 (fun W=>W.cell? ⟨z1,0,none⟩=some (.int .i64 m0)∧W.cell? ⟨z1,1,none⟩=some (.int .i64 e0)∧W.cell? ⟨z2,0,none⟩=some (.int .i64 m1')∧W.cell? ⟨z2,1,none⟩=some (.int .i64 e1')∧W.cell? ⟨bs,os+1,none⟩=some (.int .i64 x1)∧W.cell? ⟨bs,os+2,none⟩=some (.int .i64 x2)∧W.cell? ⟨bs,os+3,none⟩=some (.int .i64 x3)) (exact HKK.out _ (by (focus ((repeat (first | assumption | exact Al _ _ | exact Ai _ _ | exact Af _ _ _ | refine Ae ?_ (Af _ _ _) | refine Ae ?_ (Ai _ _) | refine Ae ?_ (by assumption)));done)))) ((go_at_call 236;refine (K4 _ m1' e1' m0 e0 (t-x1-x2) x3 HN1.out HN0.out HK.out.1 HK.out.2.1 HK.out.2.2).mono ?_;rintro e w3 ⟨b3,rfl,hr3,hb3,hg3⟩))
   all_goals
    go_wp2_with fail
    go_ret
    exact ⟨b3,rfl,by rw [HR.out];exact hr3,Nat.le_trans HG2.out.size (by simpa using hb3),Ae HG2.out (by (focus ((repeat (first | assumption | exact Al _ _ | exact Ai _ _ | exact Af _ _ _ | refine Ae ?_ (Af _ _ _) | refine Ae ?_ (Ai _ _) | refine Ae ?_ (by assumption)));done)))⟩
  ·have HR:=Ac (HQ.out.trans (if_neg a3))
   clear HQ
   go_wp2_with fail
   go_quiet (fail)
   have HGD:=Ac (Az wk nq none)
   have HG2:=Ac (Ae HG2.out HGD.out)
   have y0:=Aj HGD.out y0 (by simp)
   have y1:=Aj HGD.out y1 (by simp)
   have t0:=Aj HGD.out t0 (by simp)
   have t1:=Aj HGD.out t1 (by simp)
   have u1:=Aj HGD.out u1 (by simp)
   have u2:=Aj HGD.out u2 (by simp)
   have u3:=Aj HGD.out u3 (by simp)
   clear HGD
   generalize wk.drewN nq=wk at *
   go_wp2_with fail
   go_quiet (fail)
   have HGD:=Ac (Az wk nq none)
   have HG2:=Ac (Ae HG2.out HGD.out)
   have y0:=Aj HGD.out y0 (by simp)
   have y1:=Aj HGD.out y1 (by simp)
   have t0:=Aj HGD.out t0 (by simp)
   have t1:=Aj HGD.out t1 (by simp)
   have u1:=Aj HGD.out u1 (by simp)
   have u2:=Aj HGD.out u2 (by simp)
   have u3:=Aj HGD.out u3 (by simp)
   clear HGD
   generalize wk.drewN nq=wk at *
   go_wp2_with fail
   refine (Rb _ m0 e0 HN0.out).mono ?_
   rintro e w3 ⟨b3,rfl,hr3,hb3,hg3⟩
   go_wp2_with fail
   go_ret
   exact ⟨b3,rfl,by rw [HR.out];exact hr3,Nat.le_trans HG2.out.size hb3,Ae HG2.out hg3⟩
set_option maxRecDepth 100000 in
theorem A3l (w:World) (vv sv:Value) (vals:List (Int × Int)) (steps:List Int) (step:Int) (hv:NumRow w vv vals) (hs:IntRow w sv steps) (hok:Di 3 vals steps) (hst:0≤step∧step≤1000000000) :
  Calls Tryz.prog 165 #[.agg #[.int .i64 3,vv,sv],.int .i64 step] w fun e w'=>∃ b,e=.returned (.pointer (some ⟨b,0,none⟩))∧RatB w' b (pwlQ vals steps step)∧w.heap.size≤b∧w.grownBy w' none:=by
 obtain ⟨⟨h1,h2,h3⟩,h4,h5⟩:=X6 hok
 have HMID:=Ac (fun i hi h0 h1=>A2z (step:=step) hok hst (i:=i) hi h0 h1)
 have HNO:=Ac (Bm hok.1)
 obtain ⟨Av,cv,rfl,_,_⟩:=id hv
 obtain ⟨bv,ov,rfl,_,_⟩:=hv.at (i:=0) (by omega)
 obtain ⟨As,cs,rfl,_,_⟩:=hs.ctor
 obtain ⟨bs,os,rfl,_,_⟩:=hs.at (i:=0) (by omega)
 obtain ⟨R,hR⟩:∃ R,pwlQ vals steps step=R:=⟨_,rfl⟩
 rw [hR]
 unfold pwlQ vQ at hR
 have HQ:=Ac hR.symm
 have gw:=Af w (.cells #[.int .i64 3,.slice (some ⟨bv,ov,none⟩) vals.length cv,.slice (some ⟨bs,os,none⟩) steps.length cs] 85) none
 have hB:=Blk.new w #[.int .i64 3,.slice (some ⟨bv,ov,none⟩) vals.length cv,.slice (some ⟨bs,os,none⟩) steps.length cs] 85
 have m1:=hB.cell 1
 have m2:=hB.cell 2
 simp only [List.getElem?_toArray,List.getElem?_cons_zero,List.getElem?_cons_succ] at m1 m2
 have HV:=Ac (hv.more gw)
 have HS:=Ac (hs.more gw)
 have HGW:=Ac gw
 have HLE:=Ac (And.intro h1 h2)
 clear hv hs hok h4 h5 hB hR gw
 generalize hnv:vals.length=nv at *
 generalize hns:steps.length=ns at *
 have HNV:=Ac (And.intro hnv hns)
 clear hnv hns h3
 subst h1
 go_enter Tryz.func165,Tryz.ntmps165
 go_wp2_with fail
 generalize w.alloc (.cells #[.int .i64 3,.slice (some ⟨bv,ov,none⟩) nv cv,.slice (some ⟨bs,os,none⟩) nv cs] 85)=wa at *
 generalize w.heap.size=s at *
 go_loopw [5] (fun i wr=>∃ k:Nat,k≤nv∧i=.int .i64 k∧wr=wa∧Hid (∀ j,j<k→steps.getD j 0≤step)) (fun i _=>(nv-intOf i).toNat)
 case atStart=>exact ⟨0,by omega,rfl,rfl,Ac (fun j hj=>by omega)⟩
 case round =>
  obtain ⟨k,hk,rfl,rfl,hb⟩:=hrel
  by_cases hlt:k<nv
  ·have hki:(k:Int)<(nv:Int):=by omega
   obtain ⟨_,_,e',_,u0⟩:=HS.out.at (i:=k) (by have:=HNV.out.2;omega)
   injection e' with e';injection e' with e1 e2 _;subst e1 e2
   obtain ⟨x,hx⟩:∃ x,steps.getD k 0=x:=⟨_,rfl⟩
   rw [hx] at u0
   have HX:=Ac hx
   clear hx
   by_cases hxs:x≤step
   ·have hd:decide (x≤step)=true:=by rw [decide_eq_true_iff];exact hxs
    have HXS:=Ac hxs
    go_wp2_with fail
    exact ⟨⟨k+1,by omega,by go_num,trivial,Ac (fun j hj=>by
     by_cases h:j=k
     ·subst h;rw [HX.out];exact HXS.out
     ·exact hb.out j (by omega))⟩,by simp [intOf];omega⟩
   ·have hd:decide (x≤step)=false:=by rw [decide_eq_false_iff_not];exact hxs
    have hc:cntS steps step=k:=Y3 hb.out (by rw [HNV.out.2];omega) (fun _=>by rw [HX.out];omega)
    rw [hc] at HQ
    clear hc
    by_cases h0:k=0
    ·subst h0
     have HR:=Ac (HQ.out.trans (if_pos rfl))
     obtain ⟨_,_,e',q0,q1⟩:=HV.out.at (i:=0) (by have:=HNV.out.1;omega)
     injection e' with e';injection e' with e1 e2 _;subst e1 e2
     have HN0:=Ac (HNO.out 0)
     have i0:(0:Int)<(nv:Int):=by omega
     generalize vals.getD 0 (0,0)=p0 at *
     obtain ⟨m0,e0⟩:=p0
     simp only [Nat.zero_mul,Nat.add_zero] at q0 q1 HN0 HR u0
     have HG2:=HGW
     clear HQ
     go_wp2_with fail
     refine (Rb _ m0 e0 HN0.out).mono ?_
     rintro e w3 ⟨b3,rfl,hr3,hb3,hg3⟩
     go_wp2_with fail
     go_ret
     exact ⟨b3,rfl,by rw [HR.out];exact hr3,Nat.le_trans HG2.out.size hb3,Ae HG2.out hg3⟩
    ·obtain ⟨j,rfl⟩:∃ j,k=j+1:=⟨k-1,by omega⟩
     have HR:=Ac (HQ.out.trans ((if_neg h0).trans (if_neg (by omega))))
     rw [Nat.add_sub_cancel,HX.out] at HR
     obtain ⟨_,_,e',q0,q1⟩:=HV.out.at (i:=j) (by have:=HNV.out.1;omega)
     injection e' with e';injection e' with e1 e2 _;subst e1 e2
     obtain ⟨_,_,e',r0,r1⟩:=HV.out.at (i:=j+1) (by have:=HNV.out.1;omega)
     injection e' with e';injection e' with e1 e2 _;subst e1 e2
     obtain ⟨_,_,e',_,u1⟩:=HS.out.at (i:=j) (by have:=HNV.out.2;omega)
     injection e' with e';injection e' with e1 e2 _;subst e1 e2
     have hmid:=HMID.out (j+1) (by omega) h0 (hb.out _ (by omega))
     rw [Nat.add_sub_cancel,HX.out] at hmid
     have HN0:=Ac (HNO.out j)
     have HN1:=Ac (HNO.out (j+1))
     generalize vals.getD j (0,0)=p0 at *
     generalize vals.getD (j+1) (0,0)=p1 at *
     generalize steps.getD j 0=x0 at *
     obtain ⟨m0,e0⟩:=p0
     obtain ⟨m1',e1'⟩:=p1
     generalize x=x1 at *
     simp only at q0 q1 r0 r1 HN0 HN1 HR
     have HK:Hid ((step-x0).natAbs≤2000000000∧(x1-x0).natAbs≤2000000000∧x1-x0≠0):=Ac (by omega)
     have e1:IntKind.i64.wrap ((j:Int)+1-1)=(j:Int):=by rw [Int.add_sub_cancel];exact IntWalk.i64_in _ (by omega)
     have e2:IntKind.i64.wrap (j:Int)=(j:Int):=IntWalk.i64_in _ (by omega)
     have e3:IntKind.i64.wrap (step-x0)=step-x0:=IntWalk.i64_in _ (by omega)
     have e4:IntKind.i64.wrap (x1-x0)=x1-x0:=IntWalk.i64_in _ (by omega)
     have i0:(j:Int)<(nv:Int):=by omega
     have i1:(j:Int)+1<(nv:Int):=by omega
     have i2:(j:Int)<(nv:Int):=by omega
     have i3:(j:Int)+1<(nv:Int):=by omega
     have i4:(0:Int)≤(j:Int)+1:=by omega
     have i5:j+1<nv:=by omega
     have t0:((j:Int)+1==0)=false:=by rw [beq_eq_false_iff_ne];omega
     have t1:((j:Int)+1==(nv:Int))=false:=by rw [beq_eq_false_iff_ne];omega
     have HKK:=Ac (fun W (h:wr.grownBy W none)=>(⟨Aj h m1 (by simp),Aj h m2 (by simp),Aj h q0 (by simp),Aj h q1 (by simp),Aj h r0 (by simp),Aj h r1 (by simp),Aj h u1 (by simp),Aj h u0 (by simp)⟩:W.cell? ⟨s,1,none⟩=some (.slice (some ⟨bv,ov,none⟩) nv cv)∧W.cell? ⟨s,2,none⟩=some (.slice (some ⟨bs,os,none⟩) nv cs)∧W.cell? ⟨bv,ov+j*2,none⟩=some (.int .i64 m0)∧W.cell? ⟨bv,ov+j*2+1,none⟩=some (.int .i64 e0)∧W.cell? ⟨bv,ov+(j+1)*2,none⟩=some (.int .i64 m1')∧W.cell? ⟨bv,ov+(j+1)*2+1,none⟩=some (.int .i64 e1')∧W.cell? ⟨bs,os+j,none⟩=some (.int .i64 x0)∧W.cell? ⟨bs,os+(j+1),none⟩=some (.int .i64 x1)))
     have HG2:=HGW
     clear HQ hb hmid HMID HNO hst
     go_wp2_with fail
     go_region_held3 (fun W=>W.cell? ⟨s,1,none⟩=some (.slice (some ⟨bv,ov,none⟩) nv cv)∧W.cell? ⟨s,2,none⟩=some (.slice (some ⟨bs,os,none⟩) nv cs)∧W.cell? ⟨bv,ov+j*2,none⟩=some (.int .i64 m0)∧W.cell? ⟨bv,ov+j*2+1,none⟩=some (.int .i64 e0)∧W.cell? ⟨bv,ov+(j+1)*2,none⟩=some (.int .i64 m1')∧W.cell? ⟨bv,ov+(j+1)*2+1,none⟩=some (.int .i64 e1')∧W.cell? ⟨bs,os+j,none⟩=some (.int .i64 x0)∧W.cell? ⟨bs,os+(j+1),none⟩=some (.int .i64 x1)) (exact HKK.out _ (by (focus ((repeat (first | assumption | exact Al _ _ | exact Ai _ _ | exact Af _ _ _ | refine Ae ?_ (Af _ _ _) | refine Ae ?_ (Ai _ _) | refine Ae ?_ (by assumption)));done)))) ((go_at_call 236;refine (K4 _ m0 e0 m1' e1' (step-x0) (x1-x0) HN0.out HN1.out HK.out.1 HK.out.2.1 HK.out.2.2).mono ?_;rintro e w3 ⟨b3,rfl,hr3,hb3,hg3⟩))
     all_goals
      go_wp2_with fail
      go_ret
      exact ⟨b3,rfl,by rw [HR.out];exact hr3,Nat.le_trans HG2.out.size (by simpa using hb3),Ae HG2.out (by (focus ((repeat (first | assumption | exact Al _ _ | exact Ai _ _ | exact Af _ _ _ | refine Ae ?_ (Af _ _ _) | refine Ae ?_ (Ai _ _) | refine Ae ?_ (by assumption)));done)))⟩
  ·obtain rfl:k=nv:=by omega
   have hc:cntS steps step=k:=Y3 hb.out (by rw [HNV.out.2];omega) (fun h=>by rw [HNV.out.2] at h;omega)
   rw [hc] at HQ
   clear hc
   obtain ⟨j,rfl⟩:∃ j,k=j+1:=⟨k-1,by have:=HLE.out;omega⟩
   have HR:=Ac (HQ.out.trans ((if_neg (by omega)).trans (if_pos rfl)))
   rw [Nat.add_sub_cancel] at HR
   obtain ⟨_,_,e',q0,q1⟩:=HV.out.at (i:=j) (by have:=HNV.out.1;omega)
   injection e' with e';injection e' with e1 e2 _;subst e1 e2
   have HN0:=Ac (HNO.out j)
   generalize vals.getD j (0,0)=p0 at *
   obtain ⟨m0,e0⟩:=p0
   simp only at q0 q1 HN0 HR
   have e1:IntKind.i64.wrap ((j:Int)+1-1)=(j:Int):=by rw [Int.add_sub_cancel];exact IntWalk.i64_in _ (by omega)
   have e2:IntKind.i64.wrap (j:Int)=(j:Int):=IntWalk.i64_in _ (by omega)
   have i0:(j:Int)<(j:Int)+1:=by omega
   have t0:((j:Int)+1==0)=false:=by rw [beq_eq_false_iff_ne];omega
   have HG2:=HGW
   clear HQ hb HMID HNO hst
   go_wp2_with fail
   refine (Rb _ m0 e0 HN0.out).mono ?_
   rintro e w3 ⟨b3,rfl,hr3,hb3,hg3⟩
   go_wp2_with fail
   go_ret
   exact ⟨b3,rfl,by rw [HR.out];exact hr3,Nat.le_trans HG2.out.size hb3,Ae HG2.out hg3⟩
end
section
open Go.RowKit
open Rat
theorem A45 {kind:Int} {vals:List (Int × Int)} {s:List Int} {step:Int} (h:¬ Di kind vals s):atV kind vals s step=0∧atE kind vals s step=40:=by
 unfold atV atE;rw [if_neg h,if_neg h];exact ⟨rfl,rfl⟩
theorem A2t {kind:Int} {vals:List (Int × Int)} {s:List Int} {step:Int} (h:Di kind vals s) (hs:step<0∨1000000000<step):atV kind vals s step=0∧atE kind vals s step=4:=by
 unfold atV atE;rw [if_pos h,if_pos h,if_pos hs,if_pos hs];exact ⟨rfl,rfl⟩
theorem A3e {kind:Int} {vals:List (Int × Int)} {s:List Int} {step:Int} (h:Di kind vals s) (hs:0≤step∧step≤1000000000):atV kind vals s step=Y0 (Ax kind vals s step*nano)∧atE kind vals s step=Y4 (Ax kind vals s step*nano):=by
 unfold atV atE;rw [if_pos h,if_pos h,if_neg (by omega),if_neg (by omega)];exact ⟨rfl,rfl⟩
theorem Y1 {kind:Int} {vals:List (Int × Int)} {s:List Int} (h:Di kind vals s):(kind=1∧vals.length=1)∨kind=2∨kind=3∨(kind=4∧1≤vals.length∧vals.length≤16):=by
 have:=h.2.2
 unfold Cc at this
 split at this
 ·exact .inl ⟨by assumption,this.1⟩
 split at this
 ·exact .inr (.inl (by assumption))
 split at this
 ·exact .inr (.inr (.inl (by assumption)))
 split at this
 ·exact .inr (.inr (.inr ⟨by assumption,this.1,this.2.1⟩))
 ·exact absurd this id
set_option maxRecDepth 100000 in
theorem A3i (w:World) (kind:Int) (vv sv:Value) (vals:List (Int × Int)) (steps:List Int) (step:Int) (hv:NumRow w vv vals) (hs:IntRow w sv steps) :
  Calls Tryz.prog 85 #[.agg #[.int .i64 kind,vv,sv],.int .i64 step] w fun e w'=>e=.returned (.tuple #[.int .i64 (atV kind vals steps step),.int .i64 (atE kind vals steps step)])∧w.grownBy w' none:=by
 obtain ⟨Av,cv,rfl,_,_⟩:=id hv
 obtain ⟨As,cs,rfl,_,_⟩:=hs.ctor
 have gw:=Af w (.cells #[.int .i64 kind,.slice Av vals.length cv,.slice As steps.length cs] 85) none
 have hB:=Blk.new w #[.int .i64 kind,.slice Av vals.length cv,.slice As steps.length cs] 85
 have HV:=Ac (hv.more gw)
 have HS:=Ac (hs.more gw)
 have HW:=Ac (Ie _ kind _ _ vals steps HV.out HS.out)
 have HGW:=Ac gw
 have HBB:=Ac hB
 have m0:=hB.cell 0
 have m1:=hB.cell 1
 have m2:=hB.cell 2
 simp only [List.getElem?_toArray,List.getElem?_cons_zero,List.getElem?_cons_succ] at m0 m1 m2
 obtain ⟨D,hD⟩:∃ D,decide (Di kind vals steps)=D:=⟨_,rfl⟩
 rw [hD] at HW
 obtain ⟨V,hV⟩:∃ V,atV kind vals steps step=V:=⟨_,rfl⟩
 obtain ⟨E,hE⟩:∃ E,atE kind vals steps step=E:=⟨_,rfl⟩
 rw [hV,hE]
 have HVE:Hid (V=atV kind vals steps step∧E=atE kind vals steps step):=Ac ⟨hV.symm,hE.symm⟩
 have HD:=Ac hD
 clear hv hs gw hB hD hV hE
 go_enter Tryz.func85,Tryz.ntmps85
 go_wp2_with fail
 generalize w.alloc (.cells #[.int .i64 kind,.slice Av vals.length cv,.slice As steps.length cs] 85)=wa at *
 generalize w.heap.size=s at *
 refine HW.out.mono ?_
 rintro e' w1 ⟨rfl,hg1⟩
 have m0:=Aj hg1 m0 (by simp)
 have m1:=Aj hg1 m1 (by simp)
 have m2:=Aj hg1 m2 (by simp)
 have HV:=Ac (HV.out.more hg1)
 have HS:=Ac (HS.out.more hg1)
 have HG1:=Ac (Ae HGW.out hg1)
 clear hg1 HW
 cases D with
 | false =>
  have HN:=Ac (A45 (step:=step) (of_decide_eq_false HD.out))
  go_wp2_with fail
  go_ret2
  rw [HVE.out.1,HVE.out.2,HN.out.1,HN.out.2]
  exact ⟨rfl,HG1.out⟩
 | true =>
 have HWK:=Ac (of_decide_eq_true HD.out)
 clear HD
 by_cases h1:step<0
 ·have HN:=Ac (A2t HWK.out (.inl h1))
  go_wp2_with fail
  go_ret2
  rw [HVE.out.1,HVE.out.2,HN.out.1,HN.out.2]
  exact ⟨rfl,HG1.out⟩
 by_cases h2:1000000000<step
 ·have HN:=Ac (A2t HWK.out (.inr h2))
  go_wp2_with fail
  go_ret2
  rw [HVE.out.1,HVE.out.2,HN.out.1,HN.out.2]
  exact ⟨rfl,HG1.out⟩
 have HST:Hid (0≤step∧step≤1000000000):=Ac ⟨by omega,by omega⟩
 have HOK:Hid (V=Y0 (Ax kind vals steps step*nano)∧E=Y4 (Ax kind vals steps step*nano)):=Ac ⟨HVE.out.1.trans (A3e HWK.out HST.out).1,HVE.out.2.trans (A3e HWK.out HST.out).2⟩
 have HLQ:=Ac (A3m HWK.out HST.out)
 have HLS:=Ac (A2f HWK.out HST.out)
 obtain ⟨Q,hQ⟩:∃ Q,Ax kind vals steps step*nano=Q:=⟨_,rfl⟩
 rw [hQ] at HOK HLQ
 have HQ:=Ac hQ
 have HRD:=Ac (A44 (HLQ.out.mono (by omega)))
 have HKD:=Ac (Y1 HWK.out)
 have HNO:=Ac (Bm HWK.out.1)
 clear hQ HVE
 by_cases k1:kind=1
 ·as_aux_lemma =>
   subst k1
   have hl:vals.length=1:=by have:=HKD.out;omega
   obtain ⟨b,o,rfl,q0,q1⟩:=HV.out.at (i:=0) (by omega)
   have hi:(0:Int)<(vals.length:Int):=by omega
   have HP:Hid (Ax 1 vals steps step=numQ (vals.getD 0 (0,0)).1 (vals.getD 0 (0,0)).2):=Ac rfl
   rw [HP.out] at HQ HLS
   have hno:=HNO.out 0
   generalize vals.getD 0 (0,0)=p at *
   obtain ⟨m,e⟩:=p
   simp only [Nat.zero_mul,Nat.add_zero] at q0 q1 hno HQ HLS
   have HNN:=Ac hno
   clear hno hl
   go_wp2_with fail
   refine (Rb w1 m e HNN.out).mono ?_
   rintro e' w2 ⟨b2,rfl,hr2,hb2,hg2⟩
   clear q0 q1 hi
   have HR2:=Ac hr2
   have HG2:=Ac (Ae HG1.out hg2)
   have HB2:=Ac (Nat.le_trans HG1.out.size hb2)
   clear m0 m1 m2 hr2 hb2 hg2
   go_wp2_with fail
   refine (F7 w2 1000000000 1 (by omega) (by omega) (by omega) (by omega) (by omega)).mono ?_
   rintro e' w3 ⟨b3,rfl,hr3,hb3,hg3⟩
   have HR3:=Ac hr3
   have HG3:=Ac hg3
   clear hr3 hb3 hg3
   go_wp2_with fail
   refine (Gl w3 b2 b2 b3 _ _ _ (HR2.out.more HG3.out) (HR2.out.more HG3.out) HR3.out 29 (by omega) HLS.out (W5.mono (by omega))).mono ?_
   rintro e' w4 ⟨rfl,hr4,hg4⟩
   have HR4:Hid (RatB w4 b2 Q):=Ac (by rw [←HQ.out];exact hr4)
   have HG4:=Ac (Aw (Ae HG2.out HG3.out) hg4 HB2.out)
   clear hr4 hg4
   go_wp2_with fail
   refine (E7 w4 b2 _ HR4.out (HLQ.out.mono (by omega))).mono ?_
   rintro e' w5 ⟨v1,v2,rfl,hn1,hn2,_,_,hg5⟩
   obtain ⟨A1,n1,c1,rfl⟩:=hn1.ctor
   obtain ⟨A2,n2,c2,rfl⟩:=hn2.ctor
   have HN1:=Ac hn1
   have HN2:=Ac hn2
   have HG5:=Ac (Ae HG4.out hg5)
   clear hn1 hn2 hg5
   go_wp2_with fail
   refine (Rq w5 _ _ _ _ _ _ HN1.out HN2.out).mono ?_
   rintro e' w6 ⟨rfl,hg6⟩
   go_wp2_with fail
   go_ret2
   rw [HOK.out.1,HOK.out.2]
   exact ⟨by rw [←HRD.out.1,←HRD.out.2];rfl,Ae HG5.out hg6⟩
 have t1:(kind==1)=false:=by rw [beq_eq_false_iff_ne];exact k1
 by_cases k2:kind=2
 ·as_aux_lemma =>
   subst k2
   have HP:Hid (Ax 2 vals steps step=Bn vals steps step):=Ac rfl
   rw [HP.out] at HQ HLS
   clear k1
   go_wp2_with fail
   refine (A37 w1 _ _ vals steps step HV.out HS.out HWK.out HST.out).mono ?_
   rintro e' w2 ⟨b2,rfl,hr2,hb2,hg2⟩
   have HR2:=Ac hr2
   have HG2:=Ac (Ae HG1.out hg2)
   have HB2:=Ac (Nat.le_trans HG1.out.size hb2)
   clear m0 m1 m2 hr2 hb2 hg2
   go_wp2_with fail
   refine (F7 w2 1000000000 1 (by omega) (by omega) (by omega) (by omega) (by omega)).mono ?_
   rintro e' w3 ⟨b3,rfl,hr3,hb3,hg3⟩
   have HR3:=Ac hr3
   have HG3:=Ac hg3
   clear hr3 hb3 hg3
   go_wp2_with fail
   refine (Gl w3 b2 b2 b3 _ _ _ (HR2.out.more HG3.out) (HR2.out.more HG3.out) HR3.out 29 (by omega) HLS.out (W5.mono (by omega))).mono ?_
   rintro e' w4 ⟨rfl,hr4,hg4⟩
   have HR4:Hid (RatB w4 b2 Q):=Ac (by rw [←HQ.out];exact hr4)
   have HG4:=Ac (Aw (Ae HG2.out HG3.out) hg4 HB2.out)
   clear hr4 hg4
   go_wp2_with fail
   refine (E7 w4 b2 _ HR4.out (HLQ.out.mono (by omega))).mono ?_
   rintro e' w5 ⟨v1,v2,rfl,hn1,hn2,_,_,hg5⟩
   obtain ⟨A1,n1,c1,rfl⟩:=hn1.ctor
   obtain ⟨A2,n2,c2,rfl⟩:=hn2.ctor
   have HN1:=Ac hn1
   have HN2:=Ac hn2
   have HG5:=Ac (Ae HG4.out hg5)
   clear hn1 hn2 hg5
   go_wp2_with fail
   refine (Rq w5 _ _ _ _ _ _ HN1.out HN2.out).mono ?_
   rintro e' w6 ⟨rfl,hg6⟩
   go_wp2_with fail
   go_ret2
   rw [HOK.out.1,HOK.out.2]
   exact ⟨by rw [←HRD.out.1,←HRD.out.2];rfl,Ae HG5.out hg6⟩
 have t2:(kind==2)=false:=by rw [beq_eq_false_iff_ne];exact k2
 by_cases k3:kind=3
 ·as_aux_lemma =>
   subst k3
   have HP:Hid (Ax 3 vals steps step=pwlQ vals steps step):=Ac rfl
   rw [HP.out] at HQ HLS
   clear k1 k2
   go_wp2_with fail
   refine (A3l w1 _ _ vals steps step HV.out HS.out HWK.out HST.out).mono ?_
   rintro e' w2 ⟨b2,rfl,hr2,hb2,hg2⟩
   have HR2:=Ac hr2
   have HG2:=Ac (Ae HG1.out hg2)
   have HB2:=Ac (Nat.le_trans HG1.out.size hb2)
   clear m0 m1 m2 hr2 hb2 hg2
   go_wp2_with fail
   refine (F7 w2 1000000000 1 (by omega) (by omega) (by omega) (by omega) (by omega)).mono ?_
   rintro e' w3 ⟨b3,rfl,hr3,hb3,hg3⟩
   have HR3:=Ac hr3
   have HG3:=Ac hg3
   clear hr3 hb3 hg3
   go_wp2_with fail
   refine (Gl w3 b2 b2 b3 _ _ _ (HR2.out.more HG3.out) (HR2.out.more HG3.out) HR3.out 29 (by omega) HLS.out (W5.mono (by omega))).mono ?_
   rintro e' w4 ⟨rfl,hr4,hg4⟩
   have HR4:Hid (RatB w4 b2 Q):=Ac (by rw [←HQ.out];exact hr4)
   have HG4:=Ac (Aw (Ae HG2.out HG3.out) hg4 HB2.out)
   clear hr4 hg4
   go_wp2_with fail
   refine (E7 w4 b2 _ HR4.out (HLQ.out.mono (by omega))).mono ?_
   rintro e' w5 ⟨v1,v2,rfl,hn1,hn2,_,_,hg5⟩
   obtain ⟨A1,n1,c1,rfl⟩:=hn1.ctor
   obtain ⟨A2,n2,c2,rfl⟩:=hn2.ctor
   have HN1:=Ac hn1
   have HN2:=Ac hn2
   have HG5:=Ac (Ae HG4.out hg5)
   clear hn1 hn2 hg5
   go_wp2_with fail
   refine (Rq w5 _ _ _ _ _ _ HN1.out HN2.out).mono ?_
   rintro e' w6 ⟨rfl,hg6⟩
   go_wp2_with fail
   go_ret2
   rw [HOK.out.1,HOK.out.2]
   exact ⟨by rw [←HRD.out.1,←HRD.out.2];rfl,Ae HG5.out hg6⟩
 have t3:(kind==3)=false:=by rw [beq_eq_false_iff_ne];exact k3
 as_aux_lemma =>
  have hl:1≤vals.length∧vals.length≤16:=by have:=HKD.out;omega
  have ht:=Bs (a:=step) (m:=(vals.length:Int)) (by omega) (by omega)
  have HP:Hid (Ax kind vals steps step=vQ vals (step.tmod vals.length).toNat):=Ac (by unfold Ax;rw [if_neg k1,if_neg k2,if_neg k3])
  rw [HP.out] at HQ HLS
  obtain ⟨b,o,rfl,q0,q1⟩:=HV.out.at (i:=(step.tmod vals.length).toNat) (by omega)
  have hno:=HNO.out (step.tmod vals.length).toNat
  unfold vQ at HQ HLS
  have hnz:((vals.length:Int)==0)=false:=by rw [beq_eq_false_iff_ne];omega
  obtain ⟨j,hj⟩:∃ j:Nat,step.tmod (vals.length:Int)=(j:Int):=⟨(step.tmod (vals.length:Int)).toNat,by omega⟩
  rw [hj,Int.toNat_natCast] at q0 q1 hno HQ HLS
  rw [hj] at ht
  generalize vals.getD j (0,0)=p at *
  obtain ⟨m,e⟩:=p
  simp only at q0 q1 hno HQ HLS
  have HNN:=Ac hno
  have hlt:(j:Int)<(vals.length:Int):=ht.2
  clear hno k1 k2 k3 HP HWK HKD HNO
  generalize vals.length=nv at *
  have e1:IntKind.i64.wrap (j:Int)=(j:Int):=IntWalk.i64_in _ (by omega)
  have hnz2:(nv:Int)≠0:=by omega
  have hnz3:nv≠0:=by omega
  have HKK:=Ac (fun W (h:w1.grownBy W none)=>(⟨Aj h m1 (by simp),Aj h q0 (by simp),Aj h q1 (by simp)⟩:W.cell? ⟨s,1,none⟩=some (.slice (some ⟨b,o,none⟩) nv cv)∧W.cell? ⟨b,o+j*2,none⟩=some (.int .i64 m)∧W.cell? ⟨b,o+j*2+1,none⟩=some (.int .i64 e)))
  go_wp2_with fail
  go_region_held3 (fun W=>W.cell? ⟨s,1,none⟩=some (.slice (some ⟨b,o,none⟩) nv cv)∧W.cell? ⟨b,o+j*2,none⟩=some (.int .i64 m)∧W.cell? ⟨b,o+j*2+1,none⟩=some (.int .i64 e)) (exact HKK.out _ (by (focus ((repeat (first | assumption | exact Al _ _ | exact Ai _ _ | exact Af _ _ _ | refine Ae ?_ (Af _ _ _) | refine Ae ?_ (Ai _ _) | refine Ae ?_ (by assumption)));done)))) ((go_at_call 163;refine (Rb _ m e HNN.out).mono ?_;rintro e' w2 ⟨b2,rfl,hr2,hb2,hg2⟩;have hg2:=Ae (Ai w1 none) hg2;have hb2:w1.heap.size≤b2:=by simpa using hb2))
  all_goals
   have HR2:=Ac hr2
   have HG2:=Ac (Ae HG1.out hg2)
   have HB2:=Ac (Nat.le_trans HG1.out.size hb2)
   clear m0 m1 m2 hr2 hb2 hg2
   go_wp2_with fail
   refine (F7 w2 1000000000 1 (by omega) (by omega) (by omega) (by omega) (by omega)).mono ?_
   rintro e' w3 ⟨b3,rfl,hr3,hb3,hg3⟩
   have HR3:=Ac hr3
   have HG3:=Ac hg3
   clear hr3 hb3 hg3
   go_wp2_with fail
   refine (Gl w3 b2 b2 b3 _ _ _ (HR2.out.more HG3.out) (HR2.out.more HG3.out) HR3.out 29 (by omega) HLS.out (W5.mono (by omega))).mono ?_
   rintro e' w4 ⟨rfl,hr4,hg4⟩
   have HR4:Hid (RatB w4 b2 Q):=Ac (by rw [←HQ.out];exact hr4)
   have HG4:=Ac (Aw (Ae HG2.out HG3.out) hg4 HB2.out)
   clear hr4 hg4
   go_wp2_with fail
   refine (E7 w4 b2 _ HR4.out (HLQ.out.mono (by omega))).mono ?_
   rintro e' w5 ⟨v1,v2,rfl,hn1,hn2,_,_,hg5⟩
   obtain ⟨A1,n1,c1,rfl⟩:=hn1.ctor
   obtain ⟨A2,n2,c2,rfl⟩:=hn2.ctor
   have HN1:=Ac hn1
   have HN2:=Ac hn2
   have HG5:=Ac (Ae HG4.out hg5)
   clear hn1 hn2 hg5
   go_wp2_with fail
   refine (Rq w5 _ _ _ _ _ _ HN1.out HN2.out).mono ?_
   rintro e' w6 ⟨rfl,hg6⟩
   go_wp2_with fail
   go_ret2
   rw [HOK.out.1,HOK.out.2]
   exact ⟨by rw [←HRD.out.1,←HRD.out.2];rfl,Ae HG5.out hg6⟩
end
end Go.Proofs.YtckbiimikeiejaaGreatDoor
