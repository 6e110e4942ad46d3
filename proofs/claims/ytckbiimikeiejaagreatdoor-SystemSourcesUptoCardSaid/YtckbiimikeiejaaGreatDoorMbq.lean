/- RdF. -/
import Derived.Test.YtckbiimikeiejaaGreatDoorRows
import Derived.Test.YtckbiimikeiejaaGreatDoorMbo
import Derived.Test.YtckbiimikeiejaaGreatDoorMax
set_option linter.unusedVariables false
set_option linter.unusedSimpArgs false
set_option maxHeartbeats 40000000
namespace Go.Proofs.YtckbiimikeiejaaGreatDoor
section
open Go.RowKit Go.ChangeShapes Go.WideShapes Go.Deep
section
variable {H:Type} {enc:TypeId × Value→H} {P:Program} {w:World} {base:Nat} {spare:Nat→Bool} {held:Bool}
theorem Ji {d:DataW H}:∀ {l:List (DataW H)},d∈l→Rows.uptoBulk d≤Rows.uptoBulkAll l
 | x::r,h=>by
  simp only [Rows.uptoBulkAll]
  rcases List.mem_cons.1 h with rfl | h
  ·omega
  ·have:=Ji h;omega
theorem Yg (d:DataW H):1≤Rows.uptoBulk d:=by
 cases d with
 | lit l=>cases l<;>simp [Rows.uptoBulk]
 | _=>simp [Rows.uptoBulk]
theorem Nl:∀ l:List (DataW H),l.length≤Rows.uptoBulkAll l
 | []=>by simp [Rows.uptoBulkAll]
 | d::r=>by have:=Yg d;have:=Nl r;simp only [Rows.uptoBulkAll,List.length_cons];omega
theorem Jp {t:TypeId} {fs:Array Field} {fuel:Nat} {cs:List Value} {x:DataW H × List MemPlace} (ht:P.underlying t=some (.struct fs)) (h:DataW.trod enc P w base spare held fuel t cs=some x) :
  ∃ n,cs.length=P.cellsOf t∧∀ (i:Nat) (f:Field),fs[i]? = some f→∃ y,DataW.trod enc P w base spare held n f.type ((cs.drop f.offset).take (P.cellsOf f.type))=some y∧Rows.uptoBulk y.1≤Rows.uptoBulk x.1:=by
 obtain ⟨xs,n,_,rfl,hl,hlen,hf⟩:=DataW.trod_struct ht h
 refine ⟨n,hl,fun i f hi=>?_⟩
 have hlt:i<fs.size:=(Array.getElem?_eq_some_iff.1 hi).1
 refine ⟨xs[i]'(by omega),by rw [hf i f hi,List.getElem?_eq_getElem (by omega)],?_⟩
 simp only [Rows.uptoBulk]
 exact Nat.le_succ_of_le (Ji (List.mem_map.2 ⟨_,List.getElem_mem _,rfl⟩))
theorem Cr {fs:Array Field} {cs:List Value} {n m:Nat} (h:∀ (i:Nat) (f:Field),fs[i]? = some f→∃ y,DataW.trod enc P w base spare held n f.type ((cs.drop f.offset).take (P.cellsOf f.type))=some y∧Rows.uptoBulk y.1≤m)
  (i:Nat) {f:Field} (hi:fs[i]? = some f) {tt:TypeId} {o k:Nat} (ht:f.type=tt) (ho:f.offset=o) (hk:P.cellsOf tt=k):∃ y,DataW.trod enc P w base spare held n tt ((cs.drop o).take k)=some y∧Rows.uptoBulk y.1≤m:=by
 subst ht ho hk
 exact h i f hi
theorem Qz {α:Type} (d:α) {t e:TypeId} {k:Nat} (ht:P.underlying t=some (.slice e)) (hc:P.cellsOf e=k) (hk:0<k) (p:List Value→α→Nat→Prop) (hmono:∀ cs y a b,a≤b→p cs y a→p cs y b)
  {fuel:Nat} {cs:List Value} {x:DataW H × List MemPlace} (hp:∀ n cs x,DataW.trod enc P w base spare held n e cs=some x→∃ y,p cs y (Rows.uptoBulk x.1)) (h:DataW.trod enc P w base spare held fuel t cs=some x) :
  ∃ (A:Option Addr) (l:List α) (cap:Nat),cs=[.slice A l.length cap]∧l.length≤cap∧cap≤9223372036854775807∧(A=none→cap=0)∧l.length≤Rows.uptoBulk x.1∧
   (0<l.length→∃ b o,A=some ⟨b,o,none⟩∧∀ i,i<l.length→∃ cs',cs'.length=k∧p cs' (l.getD i d) (Rows.uptoBulk x.1)∧∀ j,j<k→w.cell? ⟨b,o+i*k+j,none⟩=cs'[j]?):=by
 rcases open_slice ht h with ⟨rfl,_⟩ | ⟨a,len,cap,m,n,D,Pl,rfl,hb,hl,hm,hmm,rfl,hx⟩
 ·exact ⟨none,[],0,rfl,Nat.le_refl _,by omega,fun _=>rfl,by simp,fun h=>by simp at h⟩
 ·have hlm:len≤m:=by rw [hmm];split<;>omega
  rw [hc] at hx
  have hbk:∀ i,i<len→Rows.uptoBulk (D i)≤Rows.uptoBulk (.slice ((List.range len).map D) ((List.range (m-len)).map fun j=>D (len+j))):=fun i hi=>by
   have:=Ji (H:=H) (List.mem_map.2 ⟨i,List.mem_range.2 hi,rfl⟩:D i∈(List.range len).map D)
   simp only [Rows.uptoBulk];omega
  have hbl:len≤Rows.uptoBulk (.slice ((List.range len).map D) ((List.range (m-len)).map fun j=>D (len+j))):=by
   have:=Nl ((List.range len).map D)
   simp only [Rows.uptoBulk];simp at this;omega
  obtain ⟨l,hll,hpl⟩:=Qr (α:=α) (p:=fun i y=>∃ cs',cs'.length=k∧p cs' y (Rows.uptoBulk (.slice ((List.range len).map D) ((List.range (m-len)).map fun j=>D (len+j))))∧∀ j,j<k→w.cell? ((a.add (i*k)).add j)=cs'[j]?) d (n:=len) (fun i hi=>by
   obtain ⟨cs',h1,h2⟩:=hx i (by omega)
   obtain ⟨y,hy⟩:=hp _ _ _ h2
   obtain ⟨_,h3,h4⟩:=World.cells?_some h1
   exact ⟨y,cs',h3,hmono _ _ _ _ (hbk i hi) hy,h4⟩)
  subst hll
  refine ⟨some a,l,cap,rfl,hl,by simpa [maxLen] using hm,(fun h=>by cases h),hbl,fun hpos=>?_⟩
  obtain ⟨b,off,spot⟩:=a
  obtain ⟨cs0,h3,_,h4⟩:=hpl 0 hpos
  have h5:=h4 0 hk
  rw [List.getElem?_eq_getElem (by omega)] at h5
  have hspot:spot=none:=by simpa [Addr.add] using World.cell?_spot h5
  subst hspot
  refine ⟨b,off,rfl,fun i hi=>?_⟩
  obtain ⟨cs',h6,h7,h8⟩:=hpl i hi
  refine ⟨cs',h6,h7,fun j hj=>?_⟩
  rw [←h8 j hj,add_plain,add_plain]
theorem A0q {t e:TypeId} (ht:P.underlying t=some (.slice e)) (he:P.underlying e=some .string) (hc:P.cellsOf e=1) {fuel:Nat} {cs:List Value} {x:DataW H × List MemPlace}
  (h:DataW.trod enc P w base spare held fuel t cs=some x):∃ A l c,cs=[.slice A (l:List ByteArray).length c]∧Row w (.slice A l.length c) (strs l)∧l.length≤Rows.uptoBulk x.1∧∀ s∈l,s.size≤Rows.uptoBulk x.1:=by
 obtain ⟨A,l,cap,rfl,h1,h2,h3,h5,h4⟩:=Qz (α:=ByteArray) default ht hc (by omega) (fun cs y m=>cs=[.string y]∧y.size≤m) (fun cs y a b hab hy=>⟨hy.1,by omega⟩) (fun n cs x hx=>by
  obtain ⟨s,rfl,rfl,_⟩:=DataW.trod_string he hx
  exact ⟨s,rfl,by simp only [Rows.uptoBulk,Array.length_toList];exact Nat.le_succ _⟩) h
 have hget:∀ i (hi:i<l.length),l.getD i default=l[i]:=fun i hi=>by rw [List.getD_eq_getElem?_getD,List.getElem?_eq_getElem hi];rfl
 refine ⟨A,l,cap,rfl,?_,h5,fun s hs=>?_⟩
 ·by_cases hp:0<l.length
  ·obtain ⟨b,o,rfl,hcell⟩:=h4 hp
   refine Row.mk (by rw [Bt]) (by rw [Bt];exact h1) h2 fun i hi=>?_
   rw [Bt] at hi
   obtain ⟨cs',_,⟨rfl,_⟩,hj⟩:=hcell i hi
   have:=hj 0 (by omega)
   rw [Nat.mul_one,Nat.add_zero] at this
   rw [this,I2 l i hi];rfl
  ·obtain rfl:l=[]:=List.eq_nil_of_length_eq_zero (by omega)
   exact Row.empty w h2 h3
 ·obtain ⟨i,hi,rfl⟩:=List.getElem_of_mem hs
  obtain ⟨b,o,_,hcell⟩:=h4 (by omega)
  obtain ⟨cs',_,⟨_,hlt⟩,_⟩:=hcell i hi
  rw [hget i hi] at hlt
  exact hlt
theorem N1 {t e:TypeId} (ht:P.underlying t=some (.slice e)) (he:P.underlying e=some (.int .i64)) (hc:P.cellsOf e=1) {fuel:Nat} {cs:List Value} {x:DataW H × List MemPlace}
  (h:DataW.trod enc P w base spare held fuel t cs=some x):∃ A l c,cs=[.slice A (l:List Int).length c]∧IntRow w (.slice A l.length c) l∧l.length≤Rows.uptoBulk x.1:=by
 obtain ⟨v,l,rfl,hr,hl⟩:=A0v ht he hc h
 obtain ⟨A,c,rfl,_⟩:=hr.ctor
 refine ⟨A,l,c,rfl,hr,?_⟩
 rcases hl with rfl | ⟨es,sp,e1,e2⟩
 ·simp
 ·rw [e1,←e2];have:=Nl es;simp only [Rows.uptoBulk];omega
theorem Kf {t:TypeId} (he:P.underlying t=some (.int .i64)) {fuel:Nat} {c:Value} {x:DataW H × List MemPlace} (h:DataW.trod enc P w base spare held fuel t [c]=some x):∃ z,c=.int .i64 z∧I64 z:=by
 obtain ⟨z,hz,_,hw⟩:=DataW.trod_int he h
 injection hz with hz
 exact ⟨z,hz,by have:-9223372036854775808≤z∧z≤9223372036854775807:=(by simpa [Lit.wf,IntKind.min,IntKind.max,IntKind.signed,IntKind.bits] using hw);exact this⟩
theorem A1n {t:TypeId} (he:P.underlying t=some (.int .u8)) {fuel:Nat} {c:Value} {x:DataW H × List MemPlace} (h:DataW.trod enc P w base spare held fuel t [c]=some x):∃ z,c=.int .u8 z∧0≤z∧z≤255:=by
 obtain ⟨z,hz,_,hw⟩:=DataW.trod_int he h
 injection hz with hz
 have:0≤z∧z≤255:=by simpa [Lit.wf,IntKind.min,IntKind.max,IntKind.signed,IntKind.bits] using hw
 exact ⟨z,hz,this.1,this.2⟩
end
section
variable {H:Type} {enc:TypeId × Value→H} {w:World} {base:Nat} {spare:Nat→Bool} {held:Bool}
theorem A1m:Tryz.prog.cellsOf 5=1:=by kernel_rfl
theorem Uv:Tryz.prog.cellsOf 9=1:=by kernel_rfl
theorem A0u:Tryz.prog.cellsOf 22=1:=by kernel_rfl
theorem R2:Tryz.prog.cellsOf 30=1:=by kernel_rfl
theorem A0t:Tryz.prog.cellsOf 2=1:=by kernel_rfl
theorem Oc:Tryz.prog.cellsOf 25=2:=by kernel_rfl
theorem R1:Tryz.prog.cellsOf 83=1:=by kernel_rfl
theorem Vt:Tryz.prog.cellsOf 85=3:=by kernel_rfl
theorem Su:Tryz.prog.cellsOf 87=4:=by kernel_rfl
theorem Zn:Tryz.prog.cellsOf 89=13:=by kernel_rfl
theorem A0r:Tryz.prog.cellsOf 23=1:=by kernel_rfl
theorem A0s:Tryz.prog.cellsOf 27=5:=by kernel_rfl
set_option maxRecDepth 100000 in
theorem R3 {fuel:Nat} {cs:List Value} {x:DataW H × List MemPlace} (h:DataW.trod enc Tryz.prog w base spare held fuel 25 cs=some x):∃ p:Int × Int,cs=[.int .i64 p.1,.int .i64 p.2]∧I64 p.1∧I64 p.2:=by
 obtain ⟨n,hl,hf⟩:=Lz Tryz.underlying25 h
 rw [Oc] at hl
 match cs,hl with
 | [c0,c1],_ =>
 obtain ⟨y0,h0⟩:=Gz hf 0 rfl (tt:=2) (o:=0) rfl rfl A0t
 have h0:DataW.trod enc Tryz.prog w base spare held n 2 [c0]=some y0:=h0
 obtain ⟨y1,h1⟩:=Gz hf 1 rfl (tt:=3) (o:=1) rfl rfl Hq
 have h1:DataW.trod enc Tryz.prog w base spare held n 3 [c1]=some y1:=h1
 obtain ⟨a,rfl,ia⟩:=Kf Tryz.underlying2 h0
 obtain ⟨b,rfl,ib⟩:=Kf Tryz.underlying3 h1
 exact ⟨(a,b),rfl,ia,ib⟩
theorem Qy {fuel:Nat} {cs:List Value} {x:DataW H × List MemPlace} (h:DataW.trod enc Tryz.prog w base spare held fuel 83 cs=some x):∃ A l c,cs=[.slice A (l:List (Int × Int)).length c]∧NumRow w (.slice A l.length c) l∧l.length≤Rows.uptoBulk x.1:=by
 obtain ⟨A,l,cap,rfl,h1,h2,h3,h5,h4⟩:=Qz (α:=Int × Int) (0,0) Tryz.underlying83 Oc (by omega) (fun cs p _=>cs=[.int .i64 p.1,.int .i64 p.2]∧I64 p.1∧I64 p.2) (fun cs y a b hab hy=>hy) (fun n cs x hx=>R3 hx) h
 refine ⟨A,l,cap,rfl,⟨A,cap,rfl,h1,h2,fun p hp=>?_,fun hp=>?_⟩,h5⟩
 ·obtain ⟨i,hi,rfl⟩:=List.getElem_of_mem hp
  obtain ⟨b,o,_,hcell⟩:=h4 (by omega)
  obtain ⟨cs',_,⟨_,hlt⟩,_⟩:=hcell i hi
  rw [List.getD_eq_getElem?_getD,List.getElem?_eq_getElem hi] at hlt
  exact hlt
 ·obtain ⟨b,o,rfl,hcell⟩:=h4 hp
  refine ⟨b,o,rfl,fun i hi=>?_⟩
  obtain ⟨cs',_,⟨rfl,_⟩,hj⟩:=hcell i hi
  exact ⟨hj 0 (by omega),hj 1 (by omega)⟩
set_option maxRecDepth 100000 in
theorem A0p {fuel:Nat} {cs:List Value} {x:DataW H × List MemPlace} (h:DataW.trod enc Tryz.prog w base spare held fuel 85 cs=some x):∃ k A1 l1 c1 A2 l2 c2,cs=[.int .i64 k,.slice A1 (l1:List (Int × Int)).length c1,.slice A2 (l2:List Int).length c2]∧I64 k∧NumRow w (.slice A1 l1.length c1) l1∧IntRow w (.slice A2 l2.length c2) l2∧l1.length≤Rows.uptoBulk x.1∧l2.length≤Rows.uptoBulk x.1:=by
 obtain ⟨n,hl,hf⟩:=Jp Tryz.underlying85 h
 rw [Vt] at hl
 match cs,hl with
 | [c0,c1,c2],_ =>
 obtain ⟨y0,h0,_⟩:=Cr hf 0 rfl (tt:=3) (o:=0) rfl rfl Hq
 have h0:DataW.trod enc Tryz.prog w base spare held n 3 [c0]=some y0:=h0
 obtain ⟨y1,h1,b1⟩:=Cr hf 1 rfl (tt:=83) (o:=1) rfl rfl R1
 have h1:DataW.trod enc Tryz.prog w base spare held n 83 [c1]=some y1:=h1
 obtain ⟨y2,h2,b2⟩:=Cr hf 2 rfl (tt:=30) (o:=2) rfl rfl R2
 have h2:DataW.trod enc Tryz.prog w base spare held n 30 [c2]=some y2:=h2
 obtain ⟨k,rfl,ik⟩:=Kf Tryz.underlying3 h0
 obtain ⟨A1,l1,k1,e1,r1,m1⟩:=Qy h1
 obtain ⟨A2,l2,k2,e2,r2,m2⟩:=N1 Tryz.underlying30 Tryz.underlying3 Hq h2
 injection e1 with e1
 injection e2 with e2
 subst e1 e2
 exact ⟨k,A1,l1,k1,A2,l2,k2,rfl,ik,r1,r2,Nat.le_trans m1 b1,Nat.le_trans m2 b2⟩
set_option maxRecDepth 100000 in
theorem Zm {fuel:Nat} {cs:List Value} {x:DataW H × List MemPlace} (h:DataW.trod enc Tryz.prog w base spare held fuel 87 cs=some x):∃ s k A1 l1 c1 A2 l2 c2,cs=[.string s,.int .u8 k,.slice A1 (l1:List (Int × Int)).length c1,.slice A2 (l2:List (Int × Int)).length c2]∧(0≤k∧k≤255)∧NumRow w (.slice A1 l1.length c1) l1∧NumRow w (.slice A2 l2.length c2) l2∧l1.length≤Rows.uptoBulk x.1∧l2.length≤Rows.uptoBulk x.1∧s.size≤Rows.uptoBulk x.1:=by
 obtain ⟨n,hl,hf⟩:=Jp Tryz.underlying87 h
 rw [Su] at hl
 match cs,hl with
 | [c0,c1,c2,c3],_ =>
 obtain ⟨y0,h0,b0⟩:=Cr hf 0 rfl (tt:=9) (o:=0) rfl rfl Uv
 have h0:DataW.trod enc Tryz.prog w base spare held n 9 [c0]=some y0:=h0
 obtain ⟨y1,h1,_⟩:=Cr hf 1 rfl (tt:=5) (o:=1) rfl rfl A1m
 have h1:DataW.trod enc Tryz.prog w base spare held n 5 [c1]=some y1:=h1
 obtain ⟨y2,h2,b2⟩:=Cr hf 2 rfl (tt:=83) (o:=2) rfl rfl R1
 have h2:DataW.trod enc Tryz.prog w base spare held n 83 [c2]=some y2:=h2
 obtain ⟨y3,h3,b3⟩:=Cr hf 3 rfl (tt:=83) (o:=3) rfl rfl R1
 have h3:DataW.trod enc Tryz.prog w base spare held n 83 [c3]=some y3:=h3
 obtain ⟨s,e0,ex,_⟩:=DataW.trod_string Tryz.underlying9 h0
 subst ex
 simp only [Rows.uptoBulk,Array.length_toList] at b0
 obtain ⟨k,rfl,k0,k1⟩:=A1n Tryz.underlying5 h1
 obtain ⟨A1,l1,d1,e1,r1,m1⟩:=Qy h2
 obtain ⟨A2,l2,d2,e2,r2,m2⟩:=Qy h3
 injection e0 with e0
 injection e1 with e1
 injection e2 with e2
 subst e0 e1 e2
 exact ⟨s,k,A1,l1,d1,A2,l2,d2,rfl,⟨k0,k1⟩,r1,r2,Nat.le_trans m1 b2,Nat.le_trans m2 b3,by have:s.data.size=s.size:=rfl;omega⟩
def DevS (d:DevP):Prop:=d.mname.size≤4611686018427387904∧d.nodes.length≤2000000∧d.wvals.length≤2000000∧d.wsteps.length≤2000000∧d.mg.length≤2000000∧d.mv.length≤2000000
set_option maxRecDepth 100000 in
theorem A1x {fuel:Nat} {cs:List Value} {x:DataW H × List MemPlace} (h:DataW.trod enc Tryz.prog w base spare held fuel 89 cs=some x):∃ d:DevP,Rows.uptoBulk x.1≤1048576→DevV w cs d∧DevS d:=by
 obtain ⟨n,hl,hf⟩:=Jp Tryz.underlying89 h
 rw [Zn] at hl
 match cs,hl with
 | [c0,c1,c2,c3,c4,c5,c6,c7,c8,c9,c10,c11,c12],_ =>
 obtain ⟨y0,h0,_⟩:=Cr hf 0 rfl (tt:=5) (o:=0) rfl rfl A1m
 have h0:DataW.trod enc Tryz.prog w base spare held n 5 [c0]=some y0:=h0
 obtain ⟨y1,h1,b1⟩:=Cr hf 1 rfl (tt:=9) (o:=1) rfl rfl Uv
 have h1:DataW.trod enc Tryz.prog w base spare held n 9 [c1]=some y1:=h1
 obtain ⟨y2,h2,b2⟩:=Cr hf 2 rfl (tt:=30) (o:=2) rfl rfl R2
 have h2:DataW.trod enc Tryz.prog w base spare held n 30 [c2]=some y2:=h2
 obtain ⟨y3,h3,_⟩:=Cr hf 3 rfl (tt:=3) (o:=3) rfl rfl Hq
 have h3:DataW.trod enc Tryz.prog w base spare held n 3 [c3]=some y3:=h3
 obtain ⟨y4,h4,_⟩:=Cr hf 4 rfl (tt:=25) (o:=4) rfl rfl Oc
 have h4:DataW.trod enc Tryz.prog w base spare held n 25 [c4,c5]=some y4:=h4
 obtain ⟨y5,h5,b5⟩:=Cr hf 5 rfl (tt:=85) (o:=6) rfl rfl Vt
 have h5:DataW.trod enc Tryz.prog w base spare held n 85 [c6,c7,c8]=some y5:=h5
 obtain ⟨y6,h6,b6⟩:=Cr hf 6 rfl (tt:=87) (o:=9) rfl rfl Su
 have h6:DataW.trod enc Tryz.prog w base spare held n 87 [c9,c10,c11,c12]=some y6:=h6
 obtain ⟨kd,rfl,k0,k1⟩:=A1n Tryz.underlying5 h0
 obtain ⟨nm,e1,ex,_⟩:=DataW.trod_string Tryz.underlying9 h1
 obtain ⟨An,ln,cn,e2,rn,mn⟩:=N1 Tryz.underlying30 Tryz.underlying3 Hq h2
 obtain ⟨rf,rfl,ir⟩:=Kf Tryz.underlying3 h3
 obtain ⟨p,e4,i1,i2⟩:=R3 h4
 obtain ⟨wk,Av,lv,cv,As,ls,cs',e5,iw,rv,rs,mv,ms⟩:=A0p h5
 obtain ⟨mm,mk,Ag,lg,cg,Am,lm,cm,e6,im,rg,rm,mg,mmv,mms⟩:=Zm h6
 subst ex
 simp only [Rows.uptoBulk,Array.length_toList] at b1
 injection e1 with e1
 injection e2 with e2
 injection e4 with e4 e4'
 injection e4' with e4'
 injection e5 with e5 e5'
 injection e5' with e5' e5''
 injection e5'' with e5''
 injection e6 with e6 e6'
 injection e6' with e6' e6''
 injection e6'' with e6'' e6'''
 injection e6''' with e6'''
 subst e1 e2 e4 e4' e5 e5' e5'' e6 e6' e6'' e6'''
 exact ⟨⟨kd,nm,ln,rf,p,wk,lv,ls,mm,mk,lg,lm⟩,fun hb=>⟨⟨⟨k0,k1⟩,im,ir,i1,i2,iw,by have:nm.data.size=nm.size:=rfl;show nm.size<4294967281;omega,⟨by show ln.length≤_;omega,by show lv.length≤_;omega,by show ls.length≤_;omega,by show lg.length≤_;omega,by show lm.length≤_;omega⟩,_,_,_,_,_,rfl,rn,rv,rs,rg,rm⟩,by show mm.size≤_;omega,by show ln.length≤_;omega,by show lv.length≤_;omega,by show ls.length≤_;omega,by show lg.length≤_;omega,by show lm.length≤_;omega⟩⟩
theorem A0n {fuel:Nat} {cs:List Value} {x:DataW H × List MemPlace} (h:DataW.trod enc Tryz.prog w base spare held fuel 23 cs=some x) (hb:Rows.uptoBulk x.1≤1048576):∃ A l c,cs=[.slice A (l:List DevP).length c]∧DevRow w (.slice A l.length c) l∧l.length≤Rows.uptoBulk x.1∧∀ d∈l,DevS d:=by
 obtain ⟨A,l,cap,rfl,h1,h2,h3,h5,h4⟩:=Qz (α:=DevP) dev0 Tryz.underlying23 Zn (by omega) (fun cs d m=>m≤1048576→DevV w cs d∧DevS d) (fun cs y a b hab hy hm=>hy (by omega)) (fun n cs x hx=>A1x hx) h
 refine ⟨A,l,cap,rfl,⟨A,cap,rfl,h1,h2,fun hp=>?_⟩,h5,fun d hd=>?_⟩
 ·obtain ⟨b,o,rfl,hcell⟩:=h4 hp
  refine ⟨b,o,rfl,fun i hi=>?_⟩
  obtain ⟨cs',_,hd,hj⟩:=hcell i hi
  exact ⟨cs',(hd hb).1,hj⟩
 ·obtain ⟨i,hi,rfl⟩:=List.mem_iff_getElem.1 hd
  obtain ⟨b,o,rfl,hcell⟩:=h4 (by omega)
  obtain ⟨cs',_,hd,hj⟩:=hcell i hi
  have:=(hd hb).2
  rwa [List.getD_eq_getElem?_getD,List.getElem?_eq_getElem hi] at this
set_option maxRecDepth 100000 in
theorem A0o {fuel:Nat} {cs:List Value} {x:DataW H × List MemPlace} (h:DataW.trod enc Tryz.prog w base spare held fuel 27 cs=some x) (hb:Rows.uptoBulk x.1≤1048576):∃ (f:Bf) (A1:Option Addr) (c1:Nat) (A2:Option Addr) (c2:Nat),cs=[.slice A1 f.nodes.length c1,.slice A2 f.devs.length c2,.int .i64 f.step.1,.int .i64 f.step.2,.int .i64 f.method]∧FlatAt w f A1 c1 A2 c2∧∀ d∈f.devs,DevS d:=by
 obtain ⟨n,hl,hf⟩:=Jp Tryz.underlying27 h
 rw [A0s] at hl
 match cs,hl with
 | [c0,c1,c2,c3,c4],_ =>
 obtain ⟨y0,h0,b0⟩:=Cr hf 0 rfl (tt:=22) (o:=0) rfl rfl A0u
 have h0:DataW.trod enc Tryz.prog w base spare held n 22 [c0]=some y0:=h0
 obtain ⟨y1,h1,b1⟩:=Cr hf 1 rfl (tt:=23) (o:=1) rfl rfl A0r
 have h1:DataW.trod enc Tryz.prog w base spare held n 23 [c1]=some y1:=h1
 obtain ⟨y2,h2,_⟩:=Cr hf 2 rfl (tt:=25) (o:=2) rfl rfl Oc
 have h2:DataW.trod enc Tryz.prog w base spare held n 25 [c2,c3]=some y2:=h2
 obtain ⟨y3,h3,_⟩:=Cr hf 3 rfl (tt:=3) (o:=4) rfl rfl Hq
 have h3:DataW.trod enc Tryz.prog w base spare held n 3 [c4]=some y3:=h3
 obtain ⟨A1,l1,k1,e0,r1,m1,s1⟩:=A0q Tryz.underlying22 Tryz.underlying9 Uv h0
 obtain ⟨A2,l2,k2,e1,r2,m2,ms2⟩:=A0n h1 (Nat.le_trans b1 hb)
 obtain ⟨p,e2,i1,i2⟩:=R3 h2
 obtain ⟨me,rfl,im⟩:=Kf Tryz.underlying3 h3
 injection e0 with e0
 injection e1 with e1
 injection e2 with e2 e2'
 injection e2' with e2'
 subst e0 e1 e2 e2'
 exact ⟨⟨l1,l2,p,me⟩,A1,k1,A2,k2,rfl,⟨r1,fun s hs=>by have:=s1 s hs;omega,r2,i1,i2,im,by show l1.length≤_;omega,by show l2.length≤_;omega⟩,ms2⟩
end
end
end Go.Proofs.YtckbiimikeiejaaGreatDoor
