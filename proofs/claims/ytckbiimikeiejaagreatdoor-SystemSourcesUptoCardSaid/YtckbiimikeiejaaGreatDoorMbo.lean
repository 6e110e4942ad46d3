/- LawRow Rd Seat SrcJ. -/
import Derived.Test.YtckbiimikeiejaaGreatDoorMaa
import Derived.ChangeSame
import Derived.WideKeyArgs
import Derived.ProofKit
import Derived.Deep.DeepHandedRow
import Derived.OpenShut
import Derived.Test.YtckbiimikeiejaaGreatDoorMai
import Derived.Test.YtckbiimikeiejaaGreatDoorMaj
import Derived.Deep.Slices
import Derived.WideKeyElems4
import Derived.Test.YtckbiimikeiejaaGreatDoorCards
import Derived.Test.YtckbiimikeiejaaGreatDoorTie
import Derived.Test.YtckbiimikeiejaaGreatDoorMal
import Derived.WalkKit
import Derived.Lib.LaidTab
import Derived.Lib.SmallJoins
import Derived.Shelf.Vars
set_option linter.unusedVariables false
set_option linter.unusedSimpArgs false
set_option maxHeartbeats 40000000
namespace Go.Proofs.YtckbiimikeiejaaGreatDoor
section
open Go.RowKit Go.ChangeShapes Go.WideShapes
theorem Oy {w w':World} (hg:w.grownBy w' none) (may:MemPlace→Prop):w.keptBut w' may:=by
 refine ⟨hg.os,hg.output,fun i hi=>?_⟩
 have hb:=hg.block i hi (by simp)
 rw [hb]
 cases h:w.heap[i]? with
 | none=>trivial
 | some o =>
  cases o with
  | cells c t fr=>exact ⟨rfl,rfl,rfl,fun _ _=>rfl⟩
  | map es clock=>exact .inr ⟨rfl,rfl⟩
  | _=>rfl
theorem T9 {w w':World} (hg:w.grownBy w' none) {ps:List MemPlace} (hlt:∀ p∈ps,p.block<w.heap.size):∀ p∈ps,w.sameAt w' p:=by
 intro p hp
 have hb:=hg.block p.block (hlt p hp) (by simp)
 cases p with
 | cell b o=>exact World.cell?_of_block (w:=w) hb
 | map b=>exact hb
theorem Pb {H:Type} {enc:TypeId × Value→H} {P:Program} (hl:laidOutB P=true) {W W':World} {sp':Nat→Bool}:∀ {ts:List TypeId} {vs:List Value} {ds:List (DataW H)} {p:List MemPlace},
  (∀ t∈ts,P.readableRec t=true∧t<P.types.size)→DataW.TrodAll enc P W 0 (fun _=>true) true ts vs ds p→(∀ x∈p,W.sameAt W' x)→(∀ x∈p,sp' x.block=true)→DataW.TrodAll enc P W' 0 sp' true ts vs ds p
 | [],vs,ds,p,_,h,_,_=>by
  obtain ⟨rfl,rfl,rfl⟩:=trodAll_nil h
  rfl
 | t::ts,vs,ds,p,hr,h,hs,hb=>by
  obtain ⟨v,vs1,d,ds1,a,b,rfl,rfl,rfl,h1,h2⟩:=trodAll_cons h
  exact ⟨a,b,WideElems.Trod_stays hl (hr t (by simp)).1 (hr t (by simp)).2 h1 (fun x hx=>hs x (by simp [hx])) (fun x hx=>hb x (by simp [hx])),
   Pb hl (fun u hu=>hr u (by simp [hu])) h2 (fun x hx=>hs x (by simp [hx])) (fun x hx=>hb x (by simp [hx])),rfl⟩
theorem Za {H:Type} {enc:TypeId × Value→H} {P:Program} {f:Func} {s:ChangeSpec} {W W':World} {args:Array Value} {ds:List (DataW H)} {before:List MemPlace} {tb:TypeId}
  (hl:laidOutB P=true) (hu:P.underlying tb=some .bool) (hv:s.vars=[]) (hr:f.resultTypes=#[tb]) (hread:∀ t∈f.params.toList,P.readableRec t=true∧t<P.types.size)
  (hs:s.fn H ds = { results:=[.lit (.bool true)],args:=ds })
  (hW:DataW.Whole enc P f.params.toList s.vars false W args.toList ds [] before) (hg:W.grownBy W' none) :
  s.post enc P f false true false false W args (.bool true) W':=by
 have hlt:=hW.lt
 obtain ⟨p,q,hA,hV,hb,hz,hn⟩:=id hW
 rw [hv] at hV
 obtain ⟨_,hq⟩:=trodVars_none hV
 subst hq
 rw [List.append_nil] at hb
 subst hb
 refine ⟨ds,[],before,[],before,[],hW,?_,?_,?_,Oy hg _,fun h=>by cases h⟩
 ·rw [hr,List.append_nil,hs]
  exact trodAll_cons_mk (shut_bool hu _) trodAll_mk0
 ·rw [List.append_nil,hs]
  exact Pb hl hread hA (T9 hg hlt) (fun x hx=>by simpa using hlt x hx)
 ·rw [List.append_nil,hs,hv]
  rfl
end
section
open Go.RowKit Go.ChangeShapes Go.WideShapes Go.Deep
section
variable {H:Type} {enc:TypeId × Value→H} {P:Program} {w:World} {base:Nat} {spare:Nat→Bool} {held:Bool}
theorem Qr {α:Type} {p:Nat→α→Prop} (d:α):∀ {n:Nat},(∀ i,i<n→∃ x,p i x)→∃ l:List α,l.length=n∧∀ i,i<n→p i (l.getD i d)
 | 0,_=>⟨[],rfl,fun i hi=>by omega⟩
 | n+1,h=>by
  obtain ⟨l,hl,hp⟩:=Qr d (n:=n) (fun i hi=>h i (by omega))
  obtain ⟨x,hx⟩:=h n (by omega)
  refine ⟨l++[x],by simp [hl],fun i hi=>?_⟩
  by_cases hin:i<n
  ·have e:(l++[x]).getD i d=l.getD i d:=by simp [List.getD,List.getElem?_append_left (show i<l.length by omega)]
   rw [e];exact hp i hin
  ·obtain rfl:i=n:=by omega
   have e:(l++[x]).getD i d=x:=by simp [List.getD,←hl]
   rw [e];exact hx
theorem Lz {t:TypeId} {fs:Array Field} {fuel:Nat} {cs:List Value} {x:DataW H × List MemPlace} (ht:P.underlying t=some (.struct fs)) (h:DataW.trod enc P w base spare held fuel t cs=some x) :
  ∃ n,cs.length=P.cellsOf t∧∀ (i:Nat) (f:Field),fs[i]? = some f→∃ y,DataW.trod enc P w base spare held n f.type ((cs.drop f.offset).take (P.cellsOf f.type))=some y:=by
 obtain ⟨xs,n,_,rfl,hl,hlen,hf⟩:=DataW.trod_struct ht h
 refine ⟨n,hl,fun i f hi=>?_⟩
 have hlt:i<fs.size:=(Array.getElem?_eq_some_iff.1 hi).1
 refine ⟨xs[i]'(by omega),?_⟩
 rw [hf i f hi,List.getElem?_eq_getElem (by omega)]
theorem Gz {fs:Array Field} {cs:List Value} {n:Nat} (h:∀ (i:Nat) (f:Field),fs[i]? = some f→∃ y,DataW.trod enc P w base spare held n f.type ((cs.drop f.offset).take (P.cellsOf f.type))=some y)
  (i:Nat) {f:Field} (hi:fs[i]? = some f) {tt:TypeId} {o k:Nat} (ht:f.type=tt) (ho:f.offset=o) (hk:P.cellsOf tt=k):∃ y,DataW.trod enc P w base spare held n tt ((cs.drop o).take k)=some y:=by
 subst ht ho hk
 exact h i f hi
theorem A0w {α:Type} (d:α) {t e:TypeId} {k:Nat} (ht:P.underlying t=some (.slice e)) (hc:P.cellsOf e=k) (hk:0<k) (p:List Value→α→Prop)
  {fuel:Nat} {cs:List Value} {x:DataW H × List MemPlace} (hp:∀ n cs x,DataW.trod enc P w base spare held n e cs=some x→∃ y,p cs y) (h:DataW.trod enc P w base spare held fuel t cs=some x) :
  ∃ (A:Option Addr) (l:List α) (cap:Nat),cs=[.slice A l.length cap]∧l.length≤cap∧cap≤9223372036854775807∧(A=none→cap=0)∧
   (l=[]∨∃ es sp,x.1=.slice es sp∧es.length=l.length)∧
   (0<l.length→∃ b o,A=some ⟨b,o,none⟩∧∀ i,i<l.length→∃ cs',cs'.length=k∧p cs' (l.getD i d)∧∀ j,j<k→w.cell? ⟨b,o+i*k+j,none⟩=cs'[j]?):=by
 rcases open_slice ht h with ⟨rfl,_⟩ | ⟨a,len,cap,m,n,D,Pl,rfl,hb,hl,hm,hmm,rfl,hx⟩
 ·exact ⟨none,[],0,rfl,Nat.le_refl _,by omega,fun _=>rfl,.inl rfl,fun h=>by simp at h⟩
 ·have hlm:len≤m:=by rw [hmm];split<;>omega
  rw [hc] at hx
  obtain ⟨l,hll,hpl⟩:=Qr (α:=α) (p:=fun i y=>∃ cs',cs'.length=k∧p cs' y∧∀ j,j<k→w.cell? ((a.add (i*k)).add j)=cs'[j]?) d (n:=len) (fun i hi=>by
   obtain ⟨cs',h1,h2⟩:=hx i (by omega)
   obtain ⟨y,hy⟩:=hp _ _ _ h2
   obtain ⟨_,h3,h4⟩:=World.cells?_some h1
   exact ⟨y,cs',h3,hy,h4⟩)
  subst hll
  refine ⟨some a,l,cap,rfl,hl,by simpa [maxLen] using hm,(fun h=>by cases h),Or.inr ⟨_,_,rfl,by simp⟩,fun hpos=>?_⟩
  obtain ⟨b,off,spot⟩:=a
  obtain ⟨cs0,h3,_,h4⟩:=hpl 0 hpos
  have h5:=h4 0 hk
  rw [List.getElem?_eq_getElem (by omega)] at h5
  have hspot:spot=none:=by simpa [Addr.add] using World.cell?_spot h5
  subst hspot
  refine ⟨b,off,rfl,fun i hi=>?_⟩
  obtain ⟨cs',h6,h7,h8⟩:=hpl i hi
  refine ⟨cs',h6,h7,fun j hj=>?_⟩
  rw [←h8 j hj,add_plain,add_plain]
theorem A0v {t e:TypeId} (ht:P.underlying t=some (.slice e)) (he:P.underlying e=some (.int .i64)) (hc:P.cellsOf e=1) {fuel:Nat} {cs:List Value} {x:DataW H × List MemPlace}
  (h:DataW.trod enc P w base spare held fuel t cs=some x):∃ v l,cs=[v]∧IntRow w v l∧(l=[]∨∃ es sp,x.1=.slice es sp∧es.length=l.length):=by
 obtain ⟨A,l,cap,rfl,h1,h2,h3,h5,h4⟩:=A0w (α:=Int) 0 ht hc (by omega) (fun cs y=>cs=[.int .i64 y]∧I64 y) (fun n cs x hx=>by
  obtain ⟨z,rfl,_,hz⟩:=DataW.trod_int he hx
  exact ⟨z,rfl,by have:-9223372036854775808≤z∧z≤9223372036854775807:=(by simpa [Lit.wf,IntKind.min,IntKind.max,IntKind.signed,IntKind.bits] using hz);exact this⟩) h
 refine ⟨_,l,rfl,⟨A,cap,rfl,h1,h2,fun y hy=>?_,fun hp=>?_⟩,h5⟩
 ·obtain ⟨i,hi,rfl⟩:=List.getElem_of_mem hy
  obtain ⟨b,o,_,hcell⟩:=h4 (by omega)
  obtain ⟨cs',_,⟨_,hlt⟩,_⟩:=hcell i hi
  rw [List.getD_eq_getElem?_getD,List.getElem?_eq_getElem hi] at hlt
  exact hlt
 ·obtain ⟨b,o,rfl,hcell⟩:=h4 hp
  refine ⟨b,o,rfl,fun i hi=>?_⟩
  obtain ⟨cs',_,⟨rfl,_⟩,hj⟩:=hcell i hi
  have:=hj 0 (by omega)
  rw [Nat.mul_one,Nat.add_zero] at this
  rw [this];rfl
end
section
variable {H:Type} {enc:TypeId × Value→H} {w:World} {base:Nat} {spare:Nat→Bool} {held:Bool}
theorem Hq:Tryz.prog.cellsOf 3=1:=by kernel_rfl
end
end
section
open Go.RowKit Go.ChangeShapes Go.WideShapes Go.ChangeAt
theorem own:ownKnob Tryz.prog.godebug=none:=by kernel_rfl
theorem A0i:laidOutB Tryz.prog=true:=by kernel_rfl
theorem A0f {W:World} (h:W.ShapedOpen Tryz.prog):GlobOK W :=
 cell_of_shapedOpen_int (g:=0) (t:=3) (zero:=#[.int .i64 0]) h (of_decide_eq_true (by kernel_rfl)) (by kernel_rfl) rfl (by kernel_rfl) (by kernel_rfl) Tryz.underlying3
def Ru:Array Value:=((#[128,191,160,191,128,159,144,191,128,143]:Array Int)++Array.replicate 22 0).map fun n=>Value.int .u8 n
def firstCells:Array Value:=(Go.Pinned.utf8FirstZ.map fun (n:Nat)=>Value.int .u8 (Int.ofNat n)).toArray
def Pv (cs:Array Value):Obj→Obj
 | .cells _ t frozen=>.cells cs t frozen
 | o=>o
noncomputable def Ls (os:Os):World :=
 { World.holding Tryz.prog os ⟨#[],#[],[]⟩ with heap:=((World.holding Tryz.prog os ⟨#[],#[],[]⟩).heap.modify 1 (Pv firstCells)).modify 2 (Pv Ru) }
end
section
open Go.RowKit Go.ChangeShapes Go.WideShapes Go.ChangeAt
set_option maxRecDepth 100000 in
theorem U1:joinedFacts Tryz.pinned.checked.prog 5 Tryz.f5 (Rows.OpenSpec.upto Rows.systemSourcesSpec).bare Rows.systemSourcesUptoRow=true:=by
 unfold joinedFacts
 simp only [Bool.and_eq_true]
 repeat' refine And.intro ?_ ?_
 all_goals (as_aux_lemma=>kernel_rfl)
end
end Go.Proofs.YtckbiimikeiejaaGreatDoor
