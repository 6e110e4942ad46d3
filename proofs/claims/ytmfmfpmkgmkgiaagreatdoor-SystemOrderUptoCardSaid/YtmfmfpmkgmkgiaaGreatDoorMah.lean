/- FlatB SysA Quiet WavA Rd Seat FlatC FlatD. -/
import Derived.Test.YtmfmfpmkgmkgiaaGreatDoorMaf
import Derived.Test.YtmfmfpmkgmkgiaaGreatDoorMag
import Derived.Test.YtmfmfpmkgmkgiaaGreatDoorMae
import Derived.Test.YtmfmfpmkgmkgiaaGreatDoorMaa
import Derived.BigQuiet
import Derived.Deep.QuietTactic
import Derived.Deep.Slices
import Derived.ChangeSame
import Derived.WideKeyElems4
import Derived.ProofKit
import Derived.Test.YtmfmfpmkgmkgiaaGreatDoorCards
import Derived.Test.YtmfmfpmkgmkgiaaGreatDoorTie
import Derived.WalkKit
import Derived.Deep.DeepHandedRow
import Derived.Lib.LaidTab
import Derived.Lib.SmallJoins
import Derived.Shelf.Vars
import Derived.Test.YtmfmfpmkgmkgiaaGreatDoorMac
set_option linter.unusedVariables false
set_option linter.unusedSimpArgs false
set_option maxHeartbeats 40000000
namespace Go.Proofs.YtmfmfpmkgmkgiaaGreatDoor
section
open Go.RowKit Go.Maps
def GlobOK (w:World):Prop:=∃ m,w.cell? ⟨0,0,none⟩=some (.int .i64 m)
theorem GlobOK.more {w w':World} (h:GlobOK w) (hg:w.grownBy w' none):GlobOK w':=by
 obtain ⟨m,h⟩:=h;exact ⟨m,Aj hg h (by simp)⟩
def nmOK (s:ByteArray):Bool:=D9 s.data.toList
def dot:ByteArray:=⟨#[46]⟩
def D3 (s:ByteArray):Bool:=decide (Lib.countB s dot+1≤9)&&(Lib.splitB dot 0 (Lib.countB s dot) s).all nmOK
theorem Sh (w:World) (s:ByteArray) :
  Calls Tryz.prog 143 #[.string s] w fun e w'=>e=.returned (.bool (!nmOK s))∧w.grownBy w' none:=by
 obtain ⟨R,hR⟩:∃ R,D9 s.data.toList=R:=⟨_,rfl⟩
 have h:=Rc w s
 rw [hR] at h
 show Calls _ _ _ _ fun e w'=>e=.returned (.bool (!D9 s.data.toList))∧_
 rw [hR]
 clear hR
 go_enter Tryz.func143,Tryz.ntmps143
 go_wp2_with fail
 refine h.mono ?_
 rintro e w1 ⟨rfl,hg⟩
 go_wp2
 go_ret
 exact ⟨rfl,hg⟩
def FIX (r:Int) (l:List ByteArray):Prop:=-1≤r∧(r<0↔l.all nmOK=true)
set_option maxRecDepth 100000 in
theorem Ln (w:World) (v:Value) (l:List ByteArray) (hr:Row w v (strs l)) :
  Calls Tryz.prog 199 #[v,.func (.func 143) #[] #[]] w fun e w'=>∃ r:Int,e=.returned (.int .i64 r)∧Hid (FIX r l)∧w.grownBy w' none:=by
 have HR:=Ac hr
 obtain ⟨A,c,rfl,h1,h2,h3⟩:=hr
 rw [Bt] at *
 have H3:=Ac h3
 clear h3
 go_enter Tryz.func199,Tryz.ntmps199
 go_wp2_with fail
 go_loopw [8] (fun i wr=>∃ k:Nat,k≤l.length∧i=.int .i64 k∧Hid (∀ t,t<k→nmOK (l.getD t default)=true)∧w.grownBy wr none) (fun i _=>l.length-(intOf i).toNat)
 case atStart=>exact ⟨0,Nat.zero_le _,rfl,Ac (fun t ht=>by omega),Al _ _⟩
 case round =>
  obtain ⟨k,hk,rfl,hS,hg⟩:=hrel
  by_cases hlt:k<l.length
  ·have hcell:∃ b o,A=some ⟨b,o,none⟩∧wr.cell? ⟨b,o+k,none⟩=some (.string (l.getD k default)):=by
    rcases H3.out with ⟨h0,_⟩ | ⟨b,o,rfl,hc⟩
    ·have:=congrArg List.length h0;rw [Bt] at this;exact absurd (show l.length=0 from this) (by omega)
    ·exact ⟨b,o,rfl,Aj hg ((hc k hlt).trans (I2 l k hlt)) (by simp)⟩
   obtain ⟨b,o,rfl,hc⟩:=hcell
   generalize hx:l.getD k default=x at *
   have HX:=Ac hx
   clear hx
   go_wp2_with fail
   refine (Sh wr x).mono ?_
   rintro e w1 ⟨rfl,hg1⟩
   cases hd:nmOK x with
   | false =>
    have HD:=Ac hd
    clear hd
    go_wp2
    go_ret
    refine ⟨_,rfl,Ac ⟨by omega,⟨fun h=>by omega,fun h=>?_⟩⟩,Ae hg hg1⟩
    rw [List.all_eq_true] at h
    have:=h x (by rw [←HX.out];simp [List.getD,List.getElem?_eq_getElem hlt])
    rw [HD.out] at this
    cases this
   | true =>
    have HD:=Ac hd
    clear hd
    go_wp2
    exact ⟨⟨k+1,by omega,by go_num,Ac (fun t ht=>by
     by_cases htk:t=k
     ·subst htk;rw [HX.out];exact HD.out
     ·exact hS.out t (by omega)),Ae hg hg1⟩,by simp [intOf];omega⟩
  ·obtain rfl:k=l.length:=by omega
   go_wp2_with fail
   go_ret
   refine ⟨_,rfl,Ac ⟨by omega,⟨fun _=>?_,fun _=>by omega⟩⟩,hg⟩
   rw [List.all_eq_true]
   intro x hx
   obtain ⟨j,hj,rfl⟩:=List.mem_iff_getElem.1 hx
   have:=hS.out j hj
   rwa [show l.getD j default=l[j] by simp [List.getD,List.getElem?_eq_getElem hj]] at this
theorem Js (w:World) (v:Value) (l:List ByteArray) (hr:Row w v (strs l)) :
  Calls Tryz.prog 142 #[v,.func (.func 143) #[] #[]] w fun e w'=>e=.returned (.bool (!l.all nmOK))∧w.grownBy w' none:=by
 have h:=Ln w v l hr
 obtain ⟨A,c,rfl,h1,h2,h3⟩:=hr
 clear h3
 go_enter Tryz.func142,Tryz.ntmps142
 go_wp2_with fail
 refine h.mono ?_
 rintro e w1 ⟨r,rfl,hf,hg⟩
 have h1:=hf.out.1
 by_cases hneg:r<0
 ·have hz:¬ (0:Int)≤r:=by omega
  have ha:=hf.out.2.1 hneg
  have HA:=Ac ha
  clear ha
  go_wp2
  go_ret
  exact ⟨Ao (by rw [HA.out];simp;omega),hg⟩
 ·have hz:(0:Int)≤r:=by omega
  have ha:l.all nmOK=false:=by
   cases hh:l.all nmOK
   ·rfl
   ·exact absurd (hf.out.2.2 hh) hneg
  have HA:=Ac ha
  clear ha
  go_wp2
  go_ret
  exact ⟨Ao (by rw [HA.out];simp),hg⟩
set_option maxRecDepth 100000 in
theorem Mh (w:World) (s:ByteArray) (hg:GlobOK w) (hs:s.size<4294967281) :
  Calls Tryz.prog 90 #[.string s] w fun e w'=>e=.returned (.bool (D3 s))∧w.grownBy w' none:=by
 obtain ⟨m,hm⟩:=hg
 have hsp:=Tryz.strings_Split s dot m w hs hm (by decide)
 have hlen:=Lib.splitB_all dot (by decide) 0 _ s rfl
 have hcnt:=Lib.countB_le dot (by decide) s.size s (Nat.le_refl _)
 have hU:Hid (D3 s=(decide (Lib.countB s dot+1≤9)&&(Lib.splitB dot 0 (Lib.countB s dot) s).all nmOK)):=Ac rfl
 generalize Lib.splitB dot 0 (Lib.countB s dot) s=parts at *
 generalize Lib.countB s dot=n at *
 have hr:Row (w.alloc (.cells (parts.map Value.string).toArray 9)) (.slice (some ⟨w.heap.size,0,none⟩) (n+1) (n+1)) (strs parts):=by
  refine Row.mk (by rw [Bt];omega) (by rw [Bt];omega) (by omega) fun i hi=>?_
  rw [Ay (Bi w _),Nat.zero_add]
  simp [strs]
 have ga:=Af w (.cells (parts.map Value.string).toArray 9) none
 have hC:=Js _ _ _ hr
 have HSP:=Ac hsp
 have HC:=Ac hC
 have hn:n≤4294967281:=by omega
 clear hsp hC hlen hr hm hcnt
 go_enter Tryz.func90,Tryz.ntmps90
 go_wp2_with fail
 refine HSP.out.mono ?_
 rintro e w1 ⟨rfl,rfl⟩
 by_cases h9:n+1≤9
 ·have h9':((n:Int)+1)≤9:=by omega
  go_wp2_with fail
  refine HC.out.mono ?_
  rintro e w1 ⟨rfl,hg1⟩
  generalize hall:parts.all nmOK=B at *
  go_wp2
  go_ret
  exact ⟨Ao (by rw [hU.out];simp [h9]),Ae ga hg1⟩
 ·have h9':¬ ((n:Int)+1)≤9:=by omega
  go_wp2
  go_ret
  exact ⟨Ao (by rw [hU.out];simp [h9]),ga⟩
end
section
open Go.RowKit
open Rat
def Recs (w:World) (k:Nat) (v:Value) (n:Nat) (cs:Nat→List Value):Prop :=
 ∃ A c,v=.slice A n c∧n≤c∧c≤9223372036854775807∧
  (0<n→∃ b o,A=some ⟨b,o,none⟩∧∀ i,i<n→∀ j,j<k→∃ u,(cs i)[j]? = some u∧w.cell? ⟨b,o+i*k+j,none⟩=some u)
theorem Recs.more {w w':World} {k:Nat} {v:Value} {n:Nat} {cs:Nat→List Value} (h:Recs w k v n cs) (hg:w.grownBy w' none):Recs w' k v n cs:=by
 obtain ⟨A,c,rfl,h1,h2,h4⟩:=h
 refine ⟨A,c,rfl,h1,h2,fun hp=>?_⟩
 obtain ⟨b,o,rfl,hc⟩:=h4 hp
 refine ⟨b,o,rfl,fun i hi j hj=>?_⟩
 obtain ⟨u,hu,hcell⟩:=hc i hi j hj
 exact ⟨u,hu,Aj hg hcell (by simp)⟩
structure CellP where
 col:Int
 neg:Bool
 limbs:List Nat
def Br:CellP:=⟨0,false,[]⟩
def CellP.z (c:CellP):Int:=sg c.neg (val 4294967296 c.limbs)
structure RowP where
 mneg:Bool
 mlimbs:List Nat
 a:List CellP
 h:List CellP
 s:List CellP
 kneg:Bool
 klimbs:List Nat
def row0:RowP:=⟨false,[],[],[],[],false,[]⟩
def RowP.k (r:RowP):Int:=sg r.kneg (val 4294967296 r.klimbs)
def CellRow (w:World) (v:Value) (l:List CellP):Prop :=
 ∃ A c,v=.slice A l.length c∧l.length≤c∧c≤9223372036854775807∧
  (0<l.length→∃ b o,A=some ⟨b,o,none⟩∧∀ i,i<l.length→∃ u,I64 (l.getD i Br).col∧w.cell? ⟨b,o+i*3,none⟩=some (.int .i64 (l.getD i Br).col)∧w.cell? ⟨b,o+i*3+1,none⟩=some (.bool (l.getD i Br).neg)∧w.cell? ⟨b,o+i*3+2,none⟩=some u∧Nums w u (l.getD i Br).limbs)
theorem CellRow.more {w w':World} {v:Value} {l:List CellP} (h:CellRow w v l) (hg:w.grownBy w' none):CellRow w' v l:=by
 obtain ⟨A,c,rfl,h1,h2,h4⟩:=h
 refine ⟨A,c,rfl,h1,h2,fun hp=>?_⟩
 obtain ⟨b,o,rfl,hc⟩:=h4 hp
 refine ⟨b,o,rfl,fun i hi=>?_⟩
 obtain ⟨u,hI,c0,c1,c2,hn⟩:=hc i hi
 exact ⟨u,hI,Aj hg c0 (by simp),Aj hg c1 (by simp),Aj hg c2 (by simp),hn.more hg⟩
theorem CellRow.ctor {w:World} {v:Value} {l:List CellP} (h:CellRow w v l):∃ A c,v=.slice A l.length c∧l.length≤c∧c≤9223372036854775807:=by
 obtain ⟨A,c,rfl,h1,h2,_⟩:=h
 exact ⟨A,c,rfl,h1,h2⟩
theorem CellRow.at {w:World} {A:Option Addr} {n c:Nat} {l:List CellP} (h:CellRow w (.slice A n c) l) {i:Nat} (hi:i<l.length) :
  ∃ b o A' n' c',A=some ⟨b,o,none⟩∧I64 (l.getD i Br).col∧w.cell? ⟨b,o+i*3,none⟩=some (.int .i64 (l.getD i Br).col)∧w.cell? ⟨b,o+i*3+1,none⟩=some (.bool (l.getD i Br).neg)∧w.cell? ⟨b,o+i*3+2,none⟩=some (.slice A' n' c')∧Nums w (.slice A' n' c') (l.getD i Br).limbs:=by
 obtain ⟨A0,c0,he,h1,h2,h4⟩:=h
 injection he with e1 e2 e3
 subst e1
 obtain ⟨b,o,rfl,hc⟩:=h4 (by omega)
 obtain ⟨u,hI,c0,c1,c2,hn⟩:=hc i hi
 obtain ⟨A',n',c',rfl⟩:=hn.ctor
 exact ⟨b,o,A',n',c',rfl,hI,c0,c1,c2,hn⟩
def RowV (w:World) (cs:List Value) (r:RowP):Prop :=
 ∃ vm va vh vs vk,cs=[.bool r.mneg,vm,va,vh,vs,.bool r.kneg,vk]∧Nums w vm r.mlimbs∧CellRow w va r.a∧CellRow w vh r.h∧CellRow w vs r.s∧Nums w vk r.klimbs
theorem RowV.more {w w':World} {cs:List Value} {r:RowP} (h:RowV w cs r) (hg:w.grownBy w' none):RowV w' cs r:=by
 obtain ⟨vm,va,vh,vs,vk,rfl,h1,h2,h3,h4,h5⟩:=h
 exact ⟨vm,va,vh,vs,vk,rfl,h1.more hg,h2.more hg,h3.more hg,h4.more hg,h5.more hg⟩
def SysRow (w:World) (v:Value) (l:List RowP):Prop :=
 ∃ A c,v=.slice A l.length c∧l.length≤c∧c≤9223372036854775807∧
  (0<l.length→∃ b o,A=some ⟨b,o,none⟩∧∀ i,i<l.length→∃ cs,RowV w cs (l.getD i row0)∧∀ j,j<7→w.cell? ⟨b,o+i*7+j,none⟩=cs[j]?)
theorem SysRow.more {w w':World} {v:Value} {l:List RowP} (h:SysRow w v l) (hg:w.grownBy w' none):SysRow w' v l:=by
 obtain ⟨A,c,rfl,h1,h2,h4⟩:=h
 refine ⟨A,c,rfl,h1,h2,fun hp=>?_⟩
 obtain ⟨b,o,rfl,hc⟩:=h4 hp
 refine ⟨b,o,rfl,fun i hi=>?_⟩
 obtain ⟨cs,hr,hcell⟩:=hc i hi
 refine ⟨cs,hr.more hg,fun j hj=>?_⟩
 have hl:cs.length=7:=by obtain ⟨_,_,_,_,_,rfl,_⟩:=hr;rfl
 have e:=hcell j hj
 rw [List.getElem?_eq_getElem (by omega)] at e ⊢
 exact Aj hg e (by simp)
theorem SysRow.ctor {w:World} {v:Value} {l:List RowP} (h:SysRow w v l):∃ A c,v=.slice A l.length c∧l.length≤c∧c≤9223372036854775807:=by
 obtain ⟨A,c,rfl,h1,h2,_⟩:=h
 exact ⟨A,c,rfl,h1,h2⟩
theorem SysRow.at {w:World} {A:Option Addr} {n c:Nat} {l:List RowP} (h:SysRow w (.slice A n c) l) {i:Nat} (hi:i<l.length) :
  ∃ b o Am nm cm Aa ca Ah ch As cs Ak nk ck,A=some ⟨b,o,none⟩∧
   w.cell? ⟨b,o+i*7,none⟩=some (.bool (l.getD i row0).mneg)∧w.cell? ⟨b,o+i*7+1,none⟩=some (.slice Am nm cm)∧
   w.cell? ⟨b,o+i*7+2,none⟩=some (.slice Aa (l.getD i row0).a.length ca)∧w.cell? ⟨b,o+i*7+3,none⟩=some (.slice Ah (l.getD i row0).h.length ch)∧w.cell? ⟨b,o+i*7+4,none⟩=some (.slice As (l.getD i row0).s.length cs)∧
   w.cell? ⟨b,o+i*7+5,none⟩=some (.bool (l.getD i row0).kneg)∧w.cell? ⟨b,o+i*7+6,none⟩=some (.slice Ak nk ck)∧
   Nums w (.slice Am nm cm) (l.getD i row0).mlimbs∧CellRow w (.slice Aa (l.getD i row0).a.length ca) (l.getD i row0).a∧CellRow w (.slice Ah (l.getD i row0).h.length ch) (l.getD i row0).h∧CellRow w (.slice As (l.getD i row0).s.length cs) (l.getD i row0).s∧Nums w (.slice Ak nk ck) (l.getD i row0).klimbs:=by
 obtain ⟨A0,c0,he,h1,h2,h4⟩:=h
 injection he with e1 e2 e3
 subst e1
 obtain ⟨b,o,rfl,hc⟩:=h4 (by omega)
 obtain ⟨cs,⟨vm,va,vh,vs,vk,rfl,r1,r2,r3,r4,r5⟩,hcell⟩:=hc i hi
 obtain ⟨Am,nm,cm,rfl⟩:=r1.ctor
 obtain ⟨Aa,ca,rfl,_⟩:=r2.ctor
 obtain ⟨Ah,ch,rfl,_⟩:=r3.ctor
 obtain ⟨As,cs,rfl,_⟩:=r4.ctor
 obtain ⟨Ak,nk,ck,rfl⟩:=r5.ctor
 exact ⟨b,o,Am,nm,cm,Aa,ca,Ah,ch,As,cs,Ak,nk,ck,rfl,hcell 0 (by omega),hcell 1 (by omega),hcell 2 (by omega),hcell 3 (by omega),hcell 4 (by omega),hcell 5 (by omega),hcell 6 (by omega),r1,r2,r3,r4,r5⟩
/-! ### what is right -/
def Iz (n:Int) (l:List CellP) (i:Nat):Prop :=
 0≤(l.getD i Br).col∧(l.getD i Br).col<n∧(0<i→(l.getD (i-1) Br).col<(l.getD i Br).col)∧IntOK (l.getD i Br).neg (l.getD i Br).limbs∧(l.getD i Br).limbs≠[]
instance (n:Int) (l:List CellP) (i:Nat):Decidable (Iz n l i):=by unfold Iz;infer_instance
def Dh (n:Int) (l:List CellP):Prop:=∀ i,i<l.length→Iz n l i
instance (n:Int) (l:List CellP):Decidable (Dh n l):=by unfold Dh;infer_instance
def Pk (n:Int) (r:RowP):Prop :=
 IntOK r.mneg r.mlimbs∧r.mneg=false∧r.mlimbs≠[]∧IntOK r.kneg r.klimbs∧Dh n r.a∧Dh n r.h∧Dh 64 r.s
instance (n:Int) (r:RowP):Decidable (Pk n r):=by unfold Pk;infer_instance
def Vw (l:List RowP):Prop:=l.length≤48∧∀ i,i<l.length→Pk l.length (l.getD i row0)
instance (l:List RowP):Decidable (Vw l):=by unfold Vw;infer_instance
def sysE (l:List RowP):Int:=if Vw l then 0 else 130
end
section
open Go.RowKit
open Classical in
noncomputable def gr (w p:World):World:=if w.grownBy p none then p else w
theorem Bc (w p:World):w.grownBy (gr w p) none:=by
 unfold gr;split
 ·assumption
 ·exact Al _ _
theorem A1k {w p:World} (h:w.grownBy p none):p=gr w p:=by unfold gr;rw [if_pos h]
theorem B8 {w:World} {a:Nat} {o:Nat} {v:Value} (h:w.cell? ⟨a,o,none⟩=some v) (p:World):(gr w p).cell? ⟨a,o,none⟩=some v:=Aj (Bc w p) h (by simp)
theorem Bq {P:Program} {id:Nat} {Q:Exit→Act→World→Prop} {a:Act} {w:World} {l:List Oper} (hm:P.follows .mixedOrders=true) (hB:Region.lexB .any l.toArray=true)
  (h:wpQuiet P l.toArray (fun w'=>∃ p:World,w'=gr w p) (fun a'=>∀ w',(∃ p:World,w'=gr w p)→Q .normal a' w') l a):(Code.region id l.toArray true).wp P Q a w :=
 wp_region_quiet (C:=fun w'=>∃ p:World,w'=gr w p) hm hB ⟨_,A1k (Ai w none)⟩ (by simpa using h)
theorem Dc {P:Program} {f:FuncId} {args:Array Value} {w p:World} {v:Value}
  (h:Calls P f args (gr w p) fun e w'=>e=.returned v∧(gr w p).grownBy w' none):Calls P f args (gr w p) fun e w''=>e=.returned v∧∃ q:World,w''=gr w q :=
 h.mono fun _ w' ⟨he,hg⟩=>⟨he,w',A1k (Ae (Bc w p) hg)⟩
end
section
open Go.RowKit
open Rat
def ints (l:List Int):List Value:=l.map (Value.int .i64)
theorem D5 (l:List Int):(ints l).length=l.length:=by simp [ints]
theorem J5 (l:List Int) (i:Nat) (h:i<l.length):(ints l)[i]? = some (.int .i64 (l.getD i 0)):=by
 simp [ints,List.getElem?_eq_getElem h,List.getD]
def IntRow (w:World) (v:Value) (l:List Int):Prop :=
 ∃ A c,v=.slice A l.length c∧l.length≤c∧c≤9223372036854775807∧(∀ x∈l,I64 x)∧
  (0<l.length→∃ b o,A=some ⟨b,o,none⟩∧∀ i,i<l.length→w.cell? ⟨b,o+i,none⟩=some (.int .i64 (l.getD i 0)))
theorem IntRow.more {w w':World} {v:Value} {l:List Int} (h:IntRow w v l) (hg:w.grownBy w' none):IntRow w' v l:=by
 obtain ⟨A,c,rfl,h1,h2,h3,h4⟩:=h
 refine ⟨A,c,rfl,h1,h2,h3,fun hp=>?_⟩
 obtain ⟨b,o,rfl,hc⟩:=h4 hp
 exact ⟨b,o,rfl,fun i hi=>Aj hg (hc i hi) (by simp)⟩
theorem IntRow.ctor {w:World} {v:Value} {l:List Int} (h:IntRow w v l):∃ A c,v=.slice A l.length c∧l.length≤c∧c≤9223372036854775807:=by
 obtain ⟨A,c,rfl,h1,h2,_⟩:=h
 exact ⟨A,c,rfl,h1,h2⟩
theorem I64.of_mem {l:List Int} (h:∀ x∈l,I64 x) (i:Nat):I64 (l.getD i 0):=by
 by_cases hi:i<l.length
 ·have:l.getD i 0=l[i]:=by simp [List.getD,List.getElem?_eq_getElem hi]
  rw [this];exact h _ (List.getElem_mem _)
 ·have:l.getD i 0=0:=by simp [List.getD,List.getElem?_eq_none (Nat.le_of_not_lt hi)]
  rw [this];exact ⟨by decide,by decide⟩
theorem IntRow.at {w:World} {A:Option Addr} {n c:Nat} {l:List Int} (h:IntRow w (.slice A n c) l) {i:Nat} (hi:i<l.length) :
  ∃ b o,A=some ⟨b,o,none⟩∧I64 (l.getD i 0)∧w.cell? ⟨b,o+i,none⟩=some (.int .i64 (l.getD i 0)):=by
 obtain ⟨A0,c0,he,h1,h2,h3,h4⟩:=h
 injection he with e1 e2 e3
 subst e1
 obtain ⟨b,o,rfl,hc⟩:=h4 (by omega)
 exact ⟨b,o,rfl,I64.of_mem h3 i,hc i hi⟩
theorem IntRow.i64 {w:World} {v:Value} {l:List Int} (h:IntRow w v l) (i:Nat):I64 (l.getD i 0):=by
 obtain ⟨_,_,_,_,_,h3,_⟩:=h
 exact I64.of_mem h3 i
def Hr (s:Int):Prop:=0≤s∧s≤1000000000
instance (s:Int):Decidable (Hr s):=by unfold Hr;infer_instance
def Cc (kind:Int) (vals:List (Int × Int)) (steps:List Int):Prop :=
 if kind=1 then vals.length=1∧steps.length=0
 else if kind=2 then vals.length=2∧steps.length=5∧1≤steps.getD 4 0∧steps.getD 1 0+steps.getD 2 0+steps.getD 3 0≤steps.getD 4 0
 else if kind=3 then (∀ i,i<steps.length→1≤i→steps.getD (i-1) 0<steps.getD i 0)∧vals.length=steps.length∧1≤vals.length∧vals.length≤16
 else if kind=4 then 1≤vals.length∧vals.length≤16∧steps.length=0
 else False
instance (kind:Int) (vals:List (Int × Int)) (steps:List Int):Decidable (Cc kind vals steps):=by unfold Cc;infer_instance
def Di (kind:Int) (vals:List (Int × Int)) (steps:List Int):Prop:=vals.all Bu=true∧(∀ i,i<steps.length→Hr (steps.getD i 0))∧Cc kind vals steps
instance (kind:Int) (vals:List (Int × Int)) (steps:List Int):Decidable (Di kind vals steps):=by unfold Di;infer_instance
theorem Mu {kind:Int} {vals:List (Int × Int)} {steps:List Int} {k:Nat} (hk:k<vals.length) (h:Bu (vals.getD k (0,0))=false):decide (Di kind vals steps)=false:=by
 rw [decide_eq_false_iff_not]
 intro hh
 have:=F8 hk h
 rw [hh.1] at this
 cases this
theorem Lj {kind:Int} {vals:List (Int × Int)} {steps:List Int} {k:Nat} (hk:k<steps.length) (h:¬ Hr (steps.getD k 0)):decide (Di kind vals steps)=false:=by
 rw [decide_eq_false_iff_not]
 exact fun hh=>h (hh.2.1 k hk)
set_option maxRecDepth 100000 in
theorem Ie (w:World) (kind:Int) (vv sv:Value) (vals:List (Int × Int)) (steps:List Int) (hv:NumRow w vv vals) (hs:IntRow w sv steps) :
  Calls Tryz.prog 123 #[.agg #[.int .i64 kind,vv,sv]] w fun e w'=>e=.returned (.bool (decide (Di kind vals steps)))∧w.grownBy w' none:=by
 have hvi:=hv.i64
 have HV:=Ac hv
 have HS:=Ac hs
 obtain ⟨A1,c1,rfl,a1,a2,_,_⟩:=hv
 obtain ⟨A2,c2,rfl,b1,b2,_,_⟩:=hs
 have gw:=Af w (.cells #[.int .i64 kind,.slice A1 vals.length c1,.slice A2 steps.length c2] 85) none
 have hB:=Blk.new w #[.int .i64 kind,.slice A1 vals.length c1,.slice A2 steps.length c2] 85
 obtain ⟨D,hD⟩:∃ D,decide (Di kind vals steps)=D:=⟨_,rfl⟩
 rw [hD]
 have HD:=Ac hD
 clear hD
 have m0:=hB.cell 0
 have m1:=hB.cell 1
 have m2:=hB.cell 2
 simp only [List.getElem?_toArray,List.getElem?_cons_zero,List.getElem?_cons_succ] at m0 m1 m2
 go_enter Tryz.func123,Tryz.ntmps123
 go_wp2_with fail
 generalize w.alloc (.cells #[.int .i64 kind,.slice A1 vals.length c1,.slice A2 steps.length c2] 85)=wa at *
 generalize hsz:w.heap.size=s at *
 go_loopw [11] (fun i wr=>∃ k:Nat,k≤vals.length∧i=.int .i64 k∧wa.grownBy wr none∧Hid (∀ t,t<k→Bu (vals.getD t (0,0))=true)) (fun i _=>(vals.length-intOf i).toNat)
 case atStart=>exact ⟨0,by omega,rfl,Al _ _,Ac (fun t ht=>by omega)⟩
 case round =>
  obtain ⟨k,hk,rfl,hg,hb⟩:=hrel
  by_cases hlt:k<vals.length
  ·have hrow:=HV.out
   obtain ⟨A',c',he,_,_,_,h4⟩:=hrow
   obtain ⟨b,o,rfl,hc⟩:=h4 (by omega)
   injection he with he1 he2 he3
   subst he1
   obtain ⟨p0,p1⟩:=hc k hlt
   have q0:=Aj (Ae gw hg) p0 (by simp)
   have q1:=Aj (Ae gw hg) p1 (by simp)
   obtain ⟨⟨u1,u2⟩,u3,u4⟩:=hvi k
   clear hc p0 p1 h4 he3
   generalize hp:vals.getD k (0,0)=p at *
   have HP:=Ac hp
   clear hp
   obtain ⟨m,e⟩:=p
   simp only at q0 q1 u1 u2 u3 u4
   go_wp2_with fail
   refine (Bd _ m e u1 u2 u3 u4).mono ?_
   rintro e' w3 ⟨rfl,hg3⟩
   have g3:=Ae hg (Ae (Af wr (.cells #[.int .i64 m,.int .i64 e] 25) none) hg3)
   cases hd:decide (NumOK m e) with
   | false =>
    have HF:=Ac (Mu (kind:=kind) (steps:=steps) hlt (by rw [HP.out];exact hd))
    clear hd
    go_wp2
    go_ret
    exact ⟨Ao (by rw [←HD.out];exact HF.out.symm),Ae gw g3⟩
   | true =>
    have HX:Hid (Bu (vals.getD k (0,0))=true):=Ac (by rw [HP.out];exact hd)
    clear hd
    go_wp2
    exact ⟨⟨k+1,by omega,Bl (by omega),g3,Ac (fun t ht=>by
     by_cases htk:t=k
     ·subst htk;exact HX.out
     ·exact hb.out t (by omega))⟩,by simp [intOf];omega⟩
  ·obtain rfl:k=vals.length:=by omega
   have HA:Hid (vals.all Bu=true):=Ac (Ez hb.out)
   have n0:=Aj hg m0 (by simp)
   have n1:=Aj hg m1 (by simp)
   have n2:=Aj hg m2 (by simp)
   have g1:=Ae gw hg
   clear hb hB m0 m1 m2 gw hg
   obtain ⟨wo,rfl⟩:∃ wo:World,wo=wr:=⟨_,rfl⟩
   go_wp2
   go_loopw [22] (fun i wr=>∃ k:Nat,k≤steps.length∧i=.int .i64 k∧wr=wo∧Hid (∀ t,t<k→Hr (steps.getD t 0))) (fun i _=>(steps.length-intOf i).toNat)
   case atStart=>exact ⟨0,by omega,rfl,rfl,Ac (fun t ht=>by omega)⟩
   case round =>
    obtain ⟨k,hk,rfl,rfl,hb⟩:=hrel
    by_cases hlt:k<steps.length
    ·obtain ⟨b,o,rfl,⟨u1,u2⟩,q0⟩:=(HS.out.more g1).at hlt
     generalize hp:steps.getD k 0=x at *
     have HP:=Ac hp
     clear hp
     by_cases hx:Hr x
     ·have HX:=Ac hx
      obtain ⟨x1,x2⟩:=hx
      have d1:¬ x<0:=by omega
      have d2:¬ (1000000000:Int)<x:=by omega
      go_wp2
      exact ⟨⟨k+1,by omega,Bl (by omega),trivial,Ac (fun t ht=>by
       by_cases htk:t=k
       ·subst htk;rw [HP.out];exact HX.out
       ·exact hb.out t (by omega))⟩,by simp [intOf];omega⟩
     ·have HF:=Ac (Lj (kind:=kind) (vals:=vals) hlt (by rw [HP.out];exact hx))
      have hx':x<0∨1000000000<x:=by unfold Hr at hx;omega
      clear hx
      rcases hx' with hx' | hx'
      ·go_wp2
       go_ret
       exact ⟨Ao (by rw [←HD.out];exact HF.out.symm),g1⟩
      ·have d1:¬ x<0:=by omega
       go_wp2
       go_ret
       exact ⟨Ao (by rw [←HD.out];exact HF.out.symm),g1⟩
    ·obtain rfl:k=steps.length:=by omega
     have HST:=Ac (fun t (ht:t<steps.length)=>hb.out t ht)
     clear hb hvi
     have hW:D=decide (Cc kind vals steps):=by
      rw [←HD.out]
      have:Di kind vals steps↔Cc kind vals steps:=⟨fun h=>h.2.2,fun h=>⟨HA.out,HST.out,h⟩⟩
      simp only [this]
     have HW:=Ac hW
     clear hW
     by_cases h1:kind=1
     ·subst h1
      have hK:Cc 1 vals steps↔(vals.length=1∧steps.length=0):=by unfold Cc;rw [if_pos rfl]
      have HK:=Ac hK
      clear hK
      generalize vals.length=lv at *
      generalize steps.length=ls at *
      go_wp2
      all_goals
       go_ret
       exact ⟨Ao (by rw [HW.out,Bool.eq_iff_iff];simp only [HK.out];simp;try omega),g1⟩
     have t1:(kind==1)=false:=by rw [beq_eq_false_iff_ne];exact h1
     by_cases h2:kind=2
     ·subst h2
      have hK:Cc 2 vals steps↔(vals.length=2∧steps.length=5∧1≤steps.getD 4 0∧steps.getD 1 0+steps.getD 2 0+steps.getD 3 0≤steps.getD 4 0):=by unfold Cc;rw [if_neg (by decide),if_pos rfl]
      have HK:=Ac hK
      clear hK
      by_cases hv2:vals.length=2
      ·have tv:((vals.length:Int)==2)=true:=by rw [beq_iff_eq];omega
       by_cases hs5:steps.length=5
       ·have ts:((steps.length:Int)==5)=true:=by rw [beq_iff_eq];omega
        obtain ⟨b,o,rfl,i4,c4⟩:=(HS.out.more g1).at (i:=4) (by omega)
        obtain ⟨b',o',e',i3,c3⟩:=(HS.out.more g1).at (i:=3) (by omega)
        injection e' with e';injection e' with e1 e2 _;subst e1 e2
        obtain ⟨b',o',e',i2,c2'⟩:=(HS.out.more g1).at (i:=2) (by omega)
        injection e' with e';injection e' with e1 e2 _;subst e1 e2
        obtain ⟨b',o',e',i1,c1'⟩:=(HS.out.more g1).at (i:=1) (by omega)
        injection e' with e';injection e' with e1 e2 _;subst e1 e2
        have s1:=HST.out 1 (by omega)
        have s2:=HST.out 2 (by omega)
        have s3:=HST.out 3 (by omega)
        obtain ⟨u1,u1'⟩:=s1
        obtain ⟨u2,u2'⟩:=s2
        obtain ⟨u3,u3'⟩:=s3
        have f1:(1:Int)<(steps.length:Int):=by omega
        have f2:(2:Int)<(steps.length:Int):=by omega
        have f3:(3:Int)<(steps.length:Int):=by omega
        have f4:(4:Int)<(steps.length:Int):=by omega
        have HV2:=Ac hv2
        have HS5:=Ac hs5
        clear hv2 hs5 i1 i2 i3 i4
        generalize steps.getD 1 0=x1 at *
        generalize steps.getD 2 0=x2 at *
        generalize steps.getD 3 0=x3 at *
        generalize steps.getD 4 0=x4 at *
        by_cases h4:1≤x4
        ·have t4:decide (1≤x4)=true:=by rw [decide_eq_true_iff];exact h4
         have w1:IntKind.i64.wrap (x1+x2)=x1+x2:=IntWalk.i64_in _ (by omega)
         have w2:IntKind.i64.wrap (x1+x2+x3)=x1+x2+x3:=IntWalk.i64_in _ (by omega)
         go_wp2_with fail
         go_quiet (fail)
         go_wp2
         go_ret
         exact ⟨Ao (by rw [HW.out,Bool.eq_iff_iff];simp only [HK.out,HV2.out,HS5.out];simp [h4]),Ae g1 (Az _ _ _)⟩
        ·have t4:decide (1≤x4)=false:=by rw [decide_eq_false_iff_not];exact h4
         go_wp2_with fail
         go_quiet (fail)
         go_wp2
         go_ret
         exact ⟨Ao (by rw [HW.out,eq_comm,decide_eq_false_iff_not];rw [HK.out];exact fun h=>by have:=h.2.2.1;omega),Ae g1 (Az _ _ _)⟩
       ·have ts:((steps.length:Int)==5)=false:=by rw [beq_eq_false_iff_ne];omega
        have HS5:=Ac hs5
        clear hs5
        go_wp2_with fail
        go_quiet (fail)
        go_wp2
        go_ret
        exact ⟨Ao (by rw [HW.out,eq_comm,decide_eq_false_iff_not];rw [HK.out];exact fun h=>HS5.out h.2.1),Ae g1 (Az _ _ _)⟩
      ·have tv:((vals.length:Int)==2)=false:=by rw [beq_eq_false_iff_ne];omega
       have HV2:=Ac hv2
       clear hv2
       go_wp2_with fail
       go_quiet (fail)
       go_wp2
       go_ret
       exact ⟨Ao (by rw [HW.out,eq_comm,decide_eq_false_iff_not];rw [HK.out];exact fun h=>HV2.out h.1),Ae g1 (Az _ _ _)⟩
     have t2:(kind==2)=false:=by rw [beq_eq_false_iff_ne];exact h2
     by_cases h4:kind=4
     ·subst h4
      have hK:Cc 4 vals steps↔(1≤vals.length∧vals.length≤16∧steps.length=0):=by unfold Cc;rw [if_neg (by decide),if_neg (by decide),if_neg (by decide),if_pos rfl]
      have HK:=Ac hK
      clear hK
      generalize vals.length=lv at *
      generalize steps.length=ls at *
      go_wp2
      all_goals
       go_ret
       exact ⟨Ao (by rw [HW.out,Bool.eq_iff_iff];simp only [HK.out];simp;try omega),g1⟩
     have t4:(kind==4)=false:=by rw [beq_eq_false_iff_ne];exact h4
     by_cases h3:kind=3
     ·subst h3
      have hK:Cc 3 vals steps↔((∀ i,i<steps.length→1≤i→steps.getD (i-1) 0<steps.getD i 0)∧vals.length=steps.length∧1≤vals.length∧vals.length≤16):=by unfold Cc;rw [if_neg (by decide),if_neg (by decide),if_pos rfl]
      have HK:=Ac hK
      clear hK
      obtain ⟨wp,rfl⟩:∃ wp:World,wp=wr:=⟨_,rfl⟩
      go_wp2
      go_loopw [7] (fun i wr=>∃ k:Nat,(1≤k∧(k≤steps.length∨k=1))∧i=.int .i64 k∧wp.grownBy wr none∧Hid (∀ i,i<k→1≤i→steps.getD (i-1) 0<steps.getD i 0)) (fun i _=>(steps.length-intOf i).toNat)
      case atStart=>exact ⟨1,by omega,rfl,Al _ _,Ac (fun t ht=>by omega)⟩
      case round =>
       obtain ⟨k,hk,rfl,hg,hb⟩:=hrel
       have n0:=Aj hg n0 (by simp)
       have n1:=Aj hg n1 (by simp)
       have n2:=Aj hg n2 (by simp)
       have g2:=Ae g1 hg
       by_cases hlt:k<steps.length
       ·obtain ⟨m,rfl⟩:∃ m,k=m+1:=⟨k-1,by omega⟩
        obtain ⟨b,o,rfl,⟨u1,u2⟩,q0⟩:=(HS.out.more g2).at hlt
        obtain ⟨b',o',e',⟨u3,u4⟩,q1⟩:=(HS.out.more g2).at (i:=m) (by omega)
        injection e' with e';injection e' with e1 e2 _;subst e1 e2
        have e1:(m:Int)+1<(steps.length:Int):=by omega
        have e2:(m:Int)<(steps.length:Int):=by omega
        have e3:((m:Int)+1).toNat=m+1:=by omega
        have e4:(0:Int)≤(m:Int)+1:=by omega
        have e5:IntKind.i64.wrap ((m:Int)+1-1)=(m:Int):=by rw [show (m:Int)+1-1=m by omega];exact IntWalk.i64_in _ (by omega)
        have e6:IntKind.i64.wrap (m:Int)=(m:Int):=IntWalk.i64_in _ (by omega)
        have e7:((m+1:Nat):Int)=(m:Int)+1:=by omega
        generalize hx1:steps.getD (m+1) 0=x1 at *
        generalize hx0:steps.getD m 0=x0 at *
        have HX:Hid (steps.getD (m+1) 0=x1∧steps.getD m 0=x0):=Ac ⟨hx1,hx0⟩
        clear hx1 hx0 e7 hk
        by_cases hd:x1≤x0
        ·have t5:decide (x1≤x0)=true:=by rw [decide_eq_true_iff];exact hd
         go_wp2_with fail
         go_quiet (fail)
         go_wp2
         go_ret
         exact ⟨Ao (by
          rw [HW.out,eq_comm,decide_eq_false_iff_not,HK.out]
          intro h
          have:=h.1 (m+1) hlt (by omega)
          rw [Nat.add_sub_cancel,HX.out.1,HX.out.2] at this
          omega),Ae g2 (Az _ _ _)⟩
        ·have t5:decide (x1≤x0)=false:=by rw [decide_eq_false_iff_not];exact hd
         go_wp2_with fail
         go_quiet (fail)
         go_wp2
         exact ⟨⟨m+1+1,by omega,by go_num,Ae hg (Az _ _ _),Ac (fun i hi h1=>by
          by_cases him:i=m+1
          ·subst him;rw [Nat.add_sub_cancel,HX.out.1,HX.out.2];omega
          ·exact hb.out i (by omega) h1)⟩,by simp [intOf];omega⟩
       ·have hge:¬ (k:Int)<(steps.length:Int):=by omega
        have HR:Hid (∀ i,i<steps.length→1≤i→steps.getD (i-1) 0<steps.getD i 0):=Ac (fun i hi h1=>hb.out i (by omega) h1)
        clear hk hb hlt
        generalize vals.length=lv at *
        generalize hls:steps.length=ls at *
        have HLS:=Ac hls
        clear hls
        have e:Cc 3 vals steps↔(lv=ls∧1≤lv∧lv≤16):=by rw [HK.out];exact ⟨fun h=>h.2,fun h=>⟨HR.out,h⟩⟩
        have HE:=Ac e
        clear e
        go_wp2
        all_goals
         go_ret
         exact ⟨Ao (by rw [HW.out,Bool.eq_iff_iff];simp only [HE.out];simp;try omega),g2⟩
     have t3:(kind==3)=false:=by rw [beq_eq_false_iff_ne];exact h3
     have hK:¬ Cc kind vals steps:=by unfold Cc;rw [if_neg h1,if_neg h2,if_neg h3,if_neg h4];exact fun h=>h
     have HK:=Ac hK
     clear hK h1 h2 h3 h4
     go_wp2
     all_goals
      go_ret
      exact ⟨Ao (by rw [HW.out,eq_comm,decide_eq_false_iff_not];exact HK.out),g1⟩
end
section
open Go.RowKit Go.ChangeShapes Go.WideShapes Go.Deep
section
variable {H:Type} {enc:TypeId × Value→H} {P:Program} {w:World} {base:Nat} {spare:Nat→Bool} {held:Bool}
theorem Qr {α:Type} {p:Nat→α→Prop} (d:α):∀ {n:Nat},(∀ i,i<n→∃ x,p i x)→∃ l:List α,l.length=n∧∀ i,i<n→p i (l.getD i d)
 | 0,_=>⟨[],rfl,fun i hi=>by omega⟩
 | n+1,h=>by
  obtain ⟨l,hl,hp⟩:=Qr d (n:=n) (fun i hi=>h i (by omega))
  obtain ⟨x,hx⟩:=h n (by omega)
  refine ⟨l++[x],by simp [hl],fun i hi=>?_⟩
  by_cases hin:i<n
  ·have e:(l++[x]).getD i d=l.getD i d:=by simp [List.getD,List.getElem?_append_left (show i<l.length by omega)]
   rw [e];exact hp i hin
  ·obtain rfl:i=n:=by omega
   have e:(l++[x]).getD i d=x:=by simp [List.getD,←hl]
   rw [e];exact hx
theorem Lz {t:TypeId} {fs:Array Field} {fuel:Nat} {cs:List Value} {x:DataW H × List MemPlace} (ht:P.underlying t=some (.struct fs)) (h:DataW.trod enc P w base spare held fuel t cs=some x) :
  ∃ n,cs.length=P.cellsOf t∧∀ (i:Nat) (f:Field),fs[i]? = some f→∃ y,DataW.trod enc P w base spare held n f.type ((cs.drop f.offset).take (P.cellsOf f.type))=some y:=by
 obtain ⟨xs,n,_,rfl,hl,hlen,hf⟩:=DataW.trod_struct ht h
 refine ⟨n,hl,fun i f hi=>?_⟩
 have hlt:i<fs.size:=(Array.getElem?_eq_some_iff.1 hi).1
 refine ⟨xs[i]'(by omega),?_⟩
 rw [hf i f hi,List.getElem?_eq_getElem (by omega)]
theorem Gz {fs:Array Field} {cs:List Value} {n:Nat} (h:∀ (i:Nat) (f:Field),fs[i]? = some f→∃ y,DataW.trod enc P w base spare held n f.type ((cs.drop f.offset).take (P.cellsOf f.type))=some y)
  (i:Nat) {f:Field} (hi:fs[i]? = some f) {tt:TypeId} {o k:Nat} (ht:f.type=tt) (ho:f.offset=o) (hk:P.cellsOf tt=k):∃ y,DataW.trod enc P w base spare held n tt ((cs.drop o).take k)=some y:=by
 subst ht ho hk
 exact h i f hi
theorem A0w {α:Type} (d:α) {t e:TypeId} {k:Nat} (ht:P.underlying t=some (.slice e)) (hc:P.cellsOf e=k) (hk:0<k) (p:List Value→α→Prop)
  {fuel:Nat} {cs:List Value} {x:DataW H × List MemPlace} (hp:∀ n cs x,DataW.trod enc P w base spare held n e cs=some x→∃ y,p cs y) (h:DataW.trod enc P w base spare held fuel t cs=some x) :
  ∃ (A:Option Addr) (l:List α) (cap:Nat),cs=[.slice A l.length cap]∧l.length≤cap∧cap≤9223372036854775807∧(A=none→cap=0)∧
   (l=[]∨∃ es sp,x.1=.slice es sp∧es.length=l.length)∧
   (0<l.length→∃ b o,A=some ⟨b,o,none⟩∧∀ i,i<l.length→∃ cs',cs'.length=k∧p cs' (l.getD i d)∧∀ j,j<k→w.cell? ⟨b,o+i*k+j,none⟩=cs'[j]?):=by
 rcases open_slice ht h with ⟨rfl,_⟩ | ⟨a,len,cap,m,n,D,Pl,rfl,hb,hl,hm,hmm,rfl,hx⟩
 ·exact ⟨none,[],0,rfl,Nat.le_refl _,by omega,fun _=>rfl,.inl rfl,fun h=>by simp at h⟩
 ·have hlm:len≤m:=by rw [hmm];split<;>omega
  rw [hc] at hx
  obtain ⟨l,hll,hpl⟩:=Qr (α:=α) (p:=fun i y=>∃ cs',cs'.length=k∧p cs' y∧∀ j,j<k→w.cell? ((a.add (i*k)).add j)=cs'[j]?) d (n:=len) (fun i hi=>by
   obtain ⟨cs',h1,h2⟩:=hx i (by omega)
   obtain ⟨y,hy⟩:=hp _ _ _ h2
   obtain ⟨_,h3,h4⟩:=World.cells?_some h1
   exact ⟨y,cs',h3,hy,h4⟩)
  subst hll
  refine ⟨some a,l,cap,rfl,hl,by simpa [maxLen] using hm,(fun h=>by cases h),Or.inr ⟨_,_,rfl,by simp⟩,fun hpos=>?_⟩
  obtain ⟨b,off,spot⟩:=a
  obtain ⟨cs0,h3,_,h4⟩:=hpl 0 hpos
  have h5:=h4 0 hk
  rw [List.getElem?_eq_getElem (by omega)] at h5
  have hspot:spot=none:=by simpa [Addr.add] using World.cell?_spot h5
  subst hspot
  refine ⟨b,off,rfl,fun i hi=>?_⟩
  obtain ⟨cs',h6,h7,h8⟩:=hpl i hi
  refine ⟨cs',h6,h7,fun j hj=>?_⟩
  rw [←h8 j hj,add_plain,add_plain]
theorem A0v {t e:TypeId} (ht:P.underlying t=some (.slice e)) (he:P.underlying e=some (.int .i64)) (hc:P.cellsOf e=1) {fuel:Nat} {cs:List Value} {x:DataW H × List MemPlace}
  (h:DataW.trod enc P w base spare held fuel t cs=some x):∃ v l,cs=[v]∧IntRow w v l∧(l=[]∨∃ es sp,x.1=.slice es sp∧es.length=l.length):=by
 obtain ⟨A,l,cap,rfl,h1,h2,h3,h5,h4⟩:=A0w (α:=Int) 0 ht hc (by omega) (fun cs y=>cs=[.int .i64 y]∧I64 y) (fun n cs x hx=>by
  obtain ⟨z,rfl,_,hz⟩:=DataW.trod_int he hx
  exact ⟨z,rfl,by have:-9223372036854775808≤z∧z≤9223372036854775807:=(by simpa [Lit.wf,IntKind.min,IntKind.max,IntKind.signed,IntKind.bits] using hz);exact this⟩) h
 refine ⟨_,l,rfl,⟨A,cap,rfl,h1,h2,fun y hy=>?_,fun hp=>?_⟩,h5⟩
 ·obtain ⟨i,hi,rfl⟩:=List.getElem_of_mem hy
  obtain ⟨b,o,_,hcell⟩:=h4 (by omega)
  obtain ⟨cs',_,⟨_,hlt⟩,_⟩:=hcell i hi
  rw [List.getD_eq_getElem?_getD,List.getElem?_eq_getElem hi] at hlt
  exact hlt
 ·obtain ⟨b,o,rfl,hcell⟩:=h4 hp
  refine ⟨b,o,rfl,fun i hi=>?_⟩
  obtain ⟨cs',_,⟨rfl,_⟩,hj⟩:=hcell i hi
  have:=hj 0 (by omega)
  rw [Nat.mul_one,Nat.add_zero] at this
  rw [this];rfl
end
section
variable {H:Type} {enc:TypeId × Value→H} {w:World} {base:Nat} {spare:Nat→Bool} {held:Bool}
theorem Hq:Tryz.prog.cellsOf 3=1:=by kernel_rfl
end
end
section
open Go.RowKit Go.ChangeShapes Go.WideShapes Go.ChangeAt
theorem own:ownKnob Tryz.prog.godebug=none:=by kernel_rfl
theorem A0i:laidOutB Tryz.prog=true:=by kernel_rfl
theorem A0f {W:World} (h:W.ShapedOpen Tryz.prog):GlobOK W :=
 cell_of_shapedOpen_int (g:=0) (t:=3) (zero:=#[.int .i64 0]) h (of_decide_eq_true (by kernel_rfl)) (by kernel_rfl) rfl (by kernel_rfl) (by kernel_rfl) Tryz.underlying3
def Ru:Array Value:=((#[128,191,160,191,128,159,144,191,128,143]:Array Int)++Array.replicate 22 0).map fun n=>Value.int .u8 n
def firstCells:Array Value:=(Go.Pinned.utf8FirstZ.map fun (n:Nat)=>Value.int .u8 (Int.ofNat n)).toArray
def Pv (cs:Array Value):Obj→Obj
 | .cells _ t frozen=>.cells cs t frozen
 | o=>o
noncomputable def Ls (os:Os):World :=
 { World.holding Tryz.prog os ⟨#[],#[],[]⟩ with heap:=((World.holding Tryz.prog os ⟨#[],#[],[]⟩).heap.modify 1 (Pv firstCells)).modify 2 (Pv Ru) }
end
section
open Go.RowKit Go.Maps
theorem Blk.three {w:World} {b:Nat} {x y z:Value} (h:Blk w b #[x,y,z]):w.cell? ⟨b,0,none⟩=some x∧w.cell? ⟨b,1,none⟩=some y∧w.cell? ⟨b,2,none⟩=some z :=
 ⟨h.cell 0,h.cell 1,h.cell 2⟩
def Cj (kind:Int) (lv ls:Nat):Bool:=decide (kind=0)&&decide (lv+ls=0)
theorem Dr (w:World) (kind:Int) (A1 A2:Option Addr) (lv ls c1 c2:Nat) (h1:lv≤1099511627776000) (h2:ls≤1099511627776000) :
  Calls Tryz.prog 146 #[.agg #[.int .i64 kind,.slice A1 lv c1,.slice A2 ls c2]] w fun e w'=>e=.returned (.bool (Cj kind lv ls))∧w.grownBy w' none:=by
 have gw:=Af w (.cells #[.int .i64 kind,.slice A1 lv c1,.slice A2 ls c2] 85) none
 obtain ⟨m0,m1,m2⟩:=(Blk.new w #[.int .i64 kind,.slice A1 lv c1,.slice A2 ls c2] 85).three
 have HU:Hid (Cj kind lv ls=(decide (kind=0)&&decide (lv+ls=0))):=Ac rfl
 by_cases hk:kind=0
 ·subst hk
  go_enter Tryz.func146,Tryz.ntmps146
  go_wp2
  go_ret
  exact ⟨Ao (by rw [HU.out,Bool.eq_iff_iff];simp;try omega),gw⟩
 ·have t:(kind==0)=false:=by rw [beq_eq_false_iff_ne];exact hk
  have HK:=Ac hk
  clear hk
  go_enter Tryz.func146,Tryz.ntmps146
  go_wp2
  go_ret
  exact ⟨Ao (by rw [HU.out];simp [HK.out]),gw⟩
def Ci (nm:ByteArray) (kind:Int) (lg lv:Nat):Bool:=decide (nm.data.toList=[])&&decide (kind=0)&&decide (lg+lv=0)
theorem Dg (w:World) (nm:ByteArray) (kind:Int) (A1 A2:Option Addr) (lg lv c1 c2:Nat) (h1:lg≤1099511627776000) (h2:lv≤1099511627776000) :
  Calls Tryz.prog 145 #[.agg #[.string nm,.int .u8 kind,.slice A1 lg c1,.slice A2 lv c2]] w fun e w'=>e=.returned (.bool (Ci nm kind lg lv))∧w.grownBy w' none:=by
 have gw:=Af w (.cells #[.string nm,.int .u8 kind,.slice A1 lg c1,.slice A2 lv c2] 87) none
 obtain ⟨m0,m1,m2,m3,_⟩:=(Blk.new w #[.string nm,.int .u8 kind,.slice A1 lg c1,.slice A2 lv c2] 87).four
 have HU:Hid (Ci nm kind lg lv=(decide (nm.data.toList=[])&&decide (kind=0)&&decide (lg+lv=0))):=Ac rfl
 have hE:nm.toList=nm.data.toList:=Lib.toList_data nm
 by_cases he:nm.toList=[]
 ·have HE:Hid (nm.data.toList=[]):=Ac (by rw [←hE];exact he)
  have he':nm.toList.isEmpty=true:=by rw [he];rfl
  clear hE
  by_cases hk:kind=0
  ·subst hk
   go_enter Tryz.func145,Tryz.ntmps145
   go_wp2
   go_ret
   exact ⟨Ao (by rw [HU.out,HE.out,Bool.eq_iff_iff];simp;try omega),gw⟩
  ·have t:(kind==0)=false:=by rw [beq_eq_false_iff_ne];exact hk
   have HK:=Ac hk
   clear hk
   go_enter Tryz.func145,Tryz.ntmps145
   go_wp2
   go_ret
   exact ⟨Ao (by rw [HU.out];simp [HK.out]),gw⟩
 ·have HE:Hid (¬ nm.data.toList=[]):=Ac (by rw [←hE];exact he)
  have he':nm.toList.isEmpty=false:=by rw [List.isEmpty_eq_false_iff];exact he
  clear hE
  go_enter Tryz.func145,Tryz.ntmps145
  go_wp2
  go_ret
  exact ⟨Ao (by rw [HU.out];simp [HE.out]),gw⟩
/-! ### devices as data -/
structure DevP where
 kind:Int
 name:ByteArray
 nodes:List Int
 ref:Int
 val:Int × Int
 wkind:Int
 wvals:List (Int × Int)
 wsteps:List Int
 mname:ByteArray
 mkind:Int
 mg:List (Int × Int)
 mv:List (Int × Int)
def dev0:DevP:=⟨0,ByteArray.empty,[],0,(0,0),0,[],[],ByteArray.empty,0,[],[]⟩
def DevP.small (d:DevP):Prop:=d.nodes.length≤140737488355328∧d.wvals.length≤140737488355328∧d.wsteps.length≤140737488355328∧d.mg.length≤140737488355328∧d.mv.length≤140737488355328
def DevV (w:World) (cs:List Value) (d:DevP):Prop :=
 (0≤d.kind∧d.kind≤255)∧(0≤d.mkind∧d.mkind≤255)∧I64 d.ref∧I64 d.val.1∧I64 d.val.2∧I64 d.wkind∧d.name.size<4294967281∧d.small∧
 ∃ vn vv vs vg vm,cs=[.int .u8 d.kind,.string d.name,vn,.int .i64 d.ref,.int .i64 d.val.1,.int .i64 d.val.2,.int .i64 d.wkind,vv,vs,.string d.mname,.int .u8 d.mkind,vg,vm]∧
  IntRow w vn d.nodes∧NumRow w vv d.wvals∧IntRow w vs d.wsteps∧NumRow w vg d.mg∧NumRow w vm d.mv
theorem DevV.more {w w':World} {cs:List Value} {d:DevP} (h:DevV w cs d) (hg:w.grownBy w' none):DevV w' cs d:=by
 obtain ⟨a1,a2,a3,a4,a5,a6,a7,a8,vn,vv,vs,vg,vm,e,h1,h2,h3,h4,h5⟩:=h
 exact ⟨a1,a2,a3,a4,a5,a6,a7,a8,vn,vv,vs,vg,vm,e,h1.more hg,h2.more hg,h3.more hg,h4.more hg,h5.more hg⟩
def DevRow (w:World) (v:Value) (l:List DevP):Prop :=
 ∃ A c,v=.slice A l.length c∧l.length≤c∧c≤9223372036854775807∧
  (0<l.length→∃ b o,A=some ⟨b,o,none⟩∧∀ i,i<l.length→∃ cs,DevV w cs (l.getD i dev0)∧∀ j,j<13→w.cell? ⟨b,o+i*13+j,none⟩=cs[j]?)
theorem DevRow.more {w w':World} {v:Value} {l:List DevP} (h:DevRow w v l) (hg:w.grownBy w' none):DevRow w' v l:=by
 obtain ⟨A,c,rfl,h1,h2,h4⟩:=h
 refine ⟨A,c,rfl,h1,h2,fun hp=>?_⟩
 obtain ⟨b,o,rfl,hc⟩:=h4 hp
 refine ⟨b,o,rfl,fun i hi=>?_⟩
 obtain ⟨cs,hr,hcell⟩:=hc i hi
 refine ⟨cs,hr.more hg,fun j hj=>?_⟩
 have hl:cs.length=13:=by obtain ⟨_,_,_,_,_,_,_,_,_,_,_,_,_,rfl,_⟩:=hr;rfl
 have e:=hcell j hj
 rw [List.getElem?_eq_getElem (by omega)] at e ⊢
 exact Aj hg e (by simp)
theorem DevRow.ctor {w:World} {v:Value} {l:List DevP} (h:DevRow w v l):∃ A c,v=.slice A l.length c∧l.length≤c∧c≤9223372036854775807:=by
 obtain ⟨A,c,rfl,h1,h2,_⟩:=h
 exact ⟨A,c,rfl,h1,h2⟩
def E3 (d:DevP) (An:Option Addr) (cn:Nat) (Av:Option Addr) (cv:Nat) (As:Option Addr) (cs:Nat) (Ag:Option Addr) (cg:Nat) (Am:Option Addr) (cm:Nat):List Value :=
 [.int .u8 d.kind,.string d.name,.slice An d.nodes.length cn,.int .i64 d.ref,.int .i64 d.val.1,.int .i64 d.val.2,.int .i64 d.wkind,.slice Av d.wvals.length cv,.slice As d.wsteps.length cs,.string d.mname,.int .u8 d.mkind,.slice Ag d.mg.length cg,.slice Am d.mv.length cm]
structure DevAt (w:World) (d:DevP) (An:Option Addr) (cn:Nat) (Av:Option Addr) (cv:Nat) (As:Option Addr) (cs:Nat) (Ag:Option Addr) (cg:Nat) (Am:Option Addr) (cm:Nat):Prop where
 kind:0≤d.kind∧d.kind≤255
 mkind:0≤d.mkind∧d.mkind≤255
 ref:I64 d.ref
 v1:I64 d.val.1
 v2:I64 d.val.2
 wkind:I64 d.wkind
 name:d.name.size<4294967281
 small:d.small
 nodes:IntRow w (.slice An d.nodes.length cn) d.nodes
 vals:NumRow w (.slice Av d.wvals.length cv) d.wvals
 steps:IntRow w (.slice As d.wsteps.length cs) d.wsteps
 g:NumRow w (.slice Ag d.mg.length cg) d.mg
 v:NumRow w (.slice Am d.mv.length cm) d.mv
theorem NumRow.ctor {w:World} {v:Value} {l:List (Int × Int)} (h:NumRow w v l):∃ A c,v=.slice A l.length c∧l.length≤c∧c≤9223372036854775807:=by
 obtain ⟨A,c,rfl,h1,h2,_⟩:=h
 exact ⟨A,c,rfl,h1,h2⟩
theorem DevAt.more {w w':World} {d:DevP} {An Av As Ag Am:Option Addr} {cn cv cs cg cm:Nat} (h:DevAt w d An cn Av cv As cs Ag cg Am cm) (hg:w.grownBy w' none):DevAt w' d An cn Av cv As cs Ag cg Am cm :=
 ⟨h.kind,h.mkind,h.ref,h.v1,h.v2,h.wkind,h.name,h.small,h.nodes.more hg,h.vals.more hg,h.steps.more hg,h.g.more hg,h.v.more hg⟩
theorem DevV.open {w:World} {cs:List Value} {d:DevP} (h:DevV w cs d):∃ An cn Av cv As cs' Ag cg Am cm,cs=E3 d An cn Av cv As cs' Ag cg Am cm∧DevAt w d An cn Av cv As cs' Ag cg Am cm:=by
 obtain ⟨a1,a2,a3,a4,a5,a6,a7,a8,vn,vv,vs,vg,vm,e,h1,h2,h3,h4,h5⟩:=h
 obtain ⟨An,cn,rfl,_⟩:=h1.ctor
 obtain ⟨Av,cv,rfl,_⟩:=h2.ctor
 obtain ⟨As,cs',rfl,_⟩:=h3.ctor
 obtain ⟨Ag,cg,rfl,_⟩:=h4.ctor
 obtain ⟨Am,cm,rfl,_⟩:=h5.ctor
 exact ⟨An,cn,Av,cv,As,cs',Ag,cg,Am,cm,e,a1,a2,a3,a4,a5,a6,a7,a8,h1,h2,h3,h4,h5⟩
theorem DevRow.at {w:World} {A:Option Addr} {n c:Nat} {l:List DevP} (h:DevRow w (.slice A n c) l) {i:Nat} (hi:i<l.length) :
  ∃ b o An cn Av cv As cs Ag cg Am cm,A=some ⟨b,o,none⟩∧DevAt w (l.getD i dev0) An cn Av cv As cs Ag cg Am cm∧
   ∀ j,j<13→w.cell? ⟨b,o+i*13+j,none⟩=(E3 (l.getD i dev0) An cn Av cv As cs Ag cg Am cm)[j]?:=by
 obtain ⟨A0,c0,he,h1,h2,h4⟩:=h
 injection he with e1 e2 e3
 subst e1
 obtain ⟨b,o,rfl,hc⟩:=h4 (by omega)
 obtain ⟨cs,hv,hcell⟩:=hc i hi
 obtain ⟨An,cn,Av,cv,As,cs',Ag,cg,Am,cm,rfl,hd⟩:=hv.open
 exact ⟨b,o,An,cn,Av,cv,As,cs',Ag,cg,Am,cm,rfl,hd,hcell⟩
end
section
open Go.RowKit Go.Maps
structure N6 (w:World) (b o:Nat) (d:DevP) (An:Option Addr) (cn:Nat) (Av:Option Addr) (cv:Nat) (As:Option Addr) (cs:Nat) (Ag:Option Addr) (cg:Nat) (Am:Option Addr) (cm:Nat):Prop where
 c0:w.cell? ⟨b,o,none⟩=some (.int .u8 d.kind)
 c1:w.cell? ⟨b,o+1,none⟩=some (.string d.name)
 c2:w.cell? ⟨b,o+2,none⟩=some (.slice An d.nodes.length cn)
 c3:w.cell? ⟨b,o+3,none⟩=some (.int .i64 d.ref)
 c4:w.cell? ⟨b,o+4,none⟩=some (.int .i64 d.val.1)
 c5:w.cell? ⟨b,o+5,none⟩=some (.int .i64 d.val.2)
 c6:w.cell? ⟨b,o+6,none⟩=some (.int .i64 d.wkind)
 c7:w.cell? ⟨b,o+7,none⟩=some (.slice Av d.wvals.length cv)
 c8:w.cell? ⟨b,o+8,none⟩=some (.slice As d.wsteps.length cs)
 c9:w.cell? ⟨b,o+9,none⟩=some (.string d.mname)
 c10:w.cell? ⟨b,o+10,none⟩=some (.int .u8 d.mkind)
 c11:w.cell? ⟨b,o+11,none⟩=some (.slice Ag d.mg.length cg)
 c12:w.cell? ⟨b,o+12,none⟩=some (.slice Am d.mv.length cm)
theorem DevRow.at2 {w:World} {A:Option Addr} {n c:Nat} {l:List DevP} (h:DevRow w (.slice A n c) l) {i:Nat} (hi:i<l.length) :
  ∃ b o An cn Av cv As cs Ag cg Am cm,A=some ⟨b,o,none⟩∧DevAt w (l.getD i dev0) An cn Av cv As cs Ag cg Am cm∧N6 w b (o+i*13) (l.getD i dev0) An cn Av cv As cs Ag cg Am cm:=by
 obtain ⟨b,o,An,cn,Av,cv,As,cs,Ag,cg,Am,cm,e,h1,h2⟩:=h.at hi
 exact ⟨b,o,An,cn,Av,cv,As,cs,Ag,cg,Am,cm,e,h1,h2 0 (by omega),h2 1 (by omega),h2 2 (by omega),h2 3 (by omega),h2 4 (by omega),h2 5 (by omega),h2 6 (by omega),h2 7 (by omega),h2 8 (by omega),h2 9 (by omega),h2 10 (by omega),h2 11 (by omega),h2 12 (by omega)⟩
structure DevBox (w:World) (b:Nat) (d:DevP) (An:Option Addr) (cn:Nat) (Av:Option Addr) (cv:Nat) (As:Option Addr) (cs:Nat) (Ag:Option Addr) (cg:Nat) (Am:Option Addr) (cm:Nat):Prop where
 c0:w.cell? ⟨b,0,none⟩=some (.int .u8 d.kind)
 c1:w.cell? ⟨b,1,none⟩=some (.string d.name)
 c2:w.cell? ⟨b,2,none⟩=some (.slice An d.nodes.length cn)
 c3:w.cell? ⟨b,3,none⟩=some (.int .i64 d.ref)
 c4:w.cell? ⟨b,4,none⟩=some (.int .i64 d.val.1)
 c5:w.cell? ⟨b,5,none⟩=some (.int .i64 d.val.2)
 c6:w.cell? ⟨b,6,none⟩=some (.int .i64 d.wkind)
 c7:w.cell? ⟨b,7,none⟩=some (.slice Av d.wvals.length cv)
 c8:w.cell? ⟨b,8,none⟩=some (.slice As d.wsteps.length cs)
 c9:w.cell? ⟨b,9,none⟩=some (.string d.mname)
 c10:w.cell? ⟨b,10,none⟩=some (.int .u8 d.mkind)
 c11:w.cell? ⟨b,11,none⟩=some (.slice Ag d.mg.length cg)
 c12:w.cell? ⟨b,12,none⟩=some (.slice Am d.mv.length cm)
theorem DevBox.of {w:World} {b:Nat} {d:DevP} {An Av As Ag Am:Option Addr} {cn cv cs cg cm:Nat} (h:Blk w b #[.int .u8 d.kind,.string d.name,.slice An d.nodes.length cn,.int .i64 d.ref,.int .i64 d.val.1,.int .i64 d.val.2,.int .i64 d.wkind,.slice Av d.wvals.length cv,.slice As d.wsteps.length cs,.string d.mname,.int .u8 d.mkind,.slice Ag d.mg.length cg,.slice Am d.mv.length cm]):DevBox w b d An cn Av cv As cs Ag cg Am cm :=
 ⟨h.cell 0,h.cell 1,h.cell 2,h.cell 3,h.cell 4,h.cell 5,h.cell 6,h.cell 7,h.cell 8,h.cell 9,h.cell 10,h.cell 11,h.cell 12⟩
theorem DevBox.more {w w':World} {b:Nat} {d:DevP} {An Av As Ag Am:Option Addr} {cn cv cs cg cm:Nat} (h:DevBox w b d An cn Av cv As cs Ag cg Am cm) (hg:w.grownBy w' none):DevBox w' b d An cn Av cv As cs Ag cg Am cm :=
 ⟨Aj hg h.c0 (by simp),Aj hg h.c1 (by simp),Aj hg h.c2 (by simp),Aj hg h.c3 (by simp),Aj hg h.c4 (by simp),Aj hg h.c5 (by simp),Aj hg h.c6 (by simp),Aj hg h.c7 (by simp),Aj hg h.c8 (by simp),Aj hg h.c9 (by simp),Aj hg h.c10 (by simp),Aj hg h.c11 (by simp),Aj hg h.c12 (by simp)⟩
theorem Ep {a b c:World} {v:Value} (h:a.grownBy b none) (k:b.grownBy c v.ownBlock) (hf:From a.heap.size v):a.grownBy c none :=
 ⟨k.os.trans h.os,k.tape.trans h.tape,k.output.trans h.output,Nat.le_trans h.size k.size,fun i hi _ =>
  (k.block i (Nat.lt_of_lt_of_le hi h.size) (fun e=>by have:=hf i e.symm;omega)).trans (h.block i hi (by simp))⟩
theorem Cm:(Tryz.prog.info? 3).map (fun i=>(i.zero,i.size,i.bytes))=some (some (.int .i64 0),1,8):=by kernel_rfl
def isBr (k:Int):Bool:=decide (k=118)||decide (k=101)||decide (k=104)||decide (k=99)||decide (k=108)||decide (k=116)
theorem A0g (k:Int) (h0:0≤k) (h1:k≤255):decide (0≤Lib.indexByte [118,101,104,99,108,116] k.toNat.toUInt8)=isBr k:=by
 have h:∀ n:Fin 256,decide (0≤Lib.indexByte [118,101,104,99,108,116] (n.val:Int).toNat.toUInt8)=isBr (n.val:Int):=by decide +kernel
 have:=h ⟨k.toNat,by omega⟩
 simp only [show ((k.toNat:Nat):Int)=k by omega] at this
 exact this
def nbr (ds:List DevP) (t:Nat):Nat:=((ds.take t).filter fun d=>isBr d.kind).length
theorem Up (ds:List DevP) (t:Nat):nbr ds t≤t:=Nat.le_trans (List.length_filter_le _ _) (List.length_take_le _ _)
theorem Hx {ds:List DevP} {t:Nat} (h:t<ds.length):nbr ds (t+1)=nbr ds t+(if isBr (ds.getD t dev0).kind then 1 else 0):=by
 unfold nbr
 rw [List.take_succ_eq_append_getElem h,List.filter_append,List.length_append]
 have:ds.getD t dev0=ds[t]:=by simp [List.getD,List.getElem?_eq_getElem h]
 rw [this]
 by_cases hb:isBr ds[t].kind=true<;>simp [hb,List.filter_cons]
def brAt (ds:List DevP) (n0:Int) (i:Nat):Int:=if isBr (ds.getD i dev0).kind then n0+nbr ds i else -1
def brs (ds:List DevP) (n0:Int) (t:Nat):List Int:=(List.range t).map (brAt ds n0)
theorem Ub (ds:List DevP) (n0:Int) (t:Nat):(brs ds n0 t).length=t:=by simp [brs]
theorem Ya (ds:List DevP) (n0:Int) (t:Nat):brs ds n0 (t+1)=brs ds n0 t++[brAt ds n0 t]:=by simp [brs,List.range_succ]
theorem F4 (l r:List Int):ints (l++r)=ints l++ints r:=by simp [ints]
set_option maxRecDepth 100000 in
theorem Mg (w:World) (vn vd:Value) (s1 s2 me:Int) (nodes:List ByteArray) (ds:List DevP) (hn:Row w vn (strs nodes)) (hd:DevRow w vd ds) (hl1:nodes.length≤1099511627776) (hl2:ds.length≤1099511627776) :
  Calls Tryz.prog 92 #[.agg #[vn,vd,.int .i64 s1,.int .i64 s2,.int .i64 me]] w fun e w'=>∃ v,e=.returned (.tuple #[.int .i64 ((nodes.length:Int)-1+nbr ds ds.length),v])∧Row w' v (ints (brs ds ((nodes.length:Int)-1) ds.length))∧From w.heap.size v∧w.grownBy w' none:=by
 have HD:=Ac hd
 obtain ⟨A1,c1,rfl,a1,a2,_⟩:=hn
 obtain ⟨A2,c2,rfl,b1,b2⟩:=hd.ctor
 rw [Bt] at *
 clear hd
 have gw:=Af w (.cells #[.slice A1 nodes.length c1,.slice A2 ds.length c2,.int .i64 s1,.int .i64 s2,.int .i64 me] 27) none
 have hB:=Blk.new w #[.slice A1 nodes.length c1,.slice A2 ds.length c2,.int .i64 s1,.int .i64 s2,.int .i64 me] 27
 have m0:(w.alloc (.cells #[.slice A1 nodes.length c1,.slice A2 ds.length c2,.int .i64 s1,.int .i64 s2,.int .i64 me] 27)).cell? ⟨w.heap.size,0,none⟩=some (.slice A1 nodes.length c1):=hB.cell 0
 have m1:(w.alloc (.cells #[.slice A1 nodes.length c1,.slice A2 ds.length c2,.int .i64 s1,.int .i64 s2,.int .i64 me] 27)).cell? ⟨w.heap.size,1,none⟩=some (.slice A2 ds.length c2):=hB.cell 1
 have hs1:=gw.size
 go_enter Tryz.func92,Tryz.ntmps92
 go_wp2_with fail
 generalize w.alloc (.cells #[.slice A1 nodes.length c1,.slice A2 ds.length c2,.int .i64 s1,.int .i64 s2,.int .i64 me] 27)=wa at *
 generalize hsz:w.heap.size=s at *
 go_loopw [4,5,16] (fun n v i wr=>∃ k:Nat,k≤ds.length∧i=.int .i64 k∧n=.int .i64 ((nodes.length:Int)-1+(nbr ds k:Nat))∧wr.ownsRow wa.heap.size 3 1 v k (ints (brs ds ((nodes.length:Int)-1) k))∧wa.grownBy wr none) (fun _ _ i _=>(ds.length-intOf i).toNat)
 case atStart=>exact ⟨0,by omega,rfl,by simp [nbr],World.ownsRow_nil _ _ _ _,Al _ _⟩
 case round =>
  obtain ⟨k,hk,rfl,rfl,hown,hg⟩:=hrel
  have hnb:=Up ds k
  by_cases hlt:k<ds.length
  ·obtain ⟨b,o,An,cn,Av,cv,As,cs,Ag,cg,Am,cm,rfl,hat,hc⟩:=(HD.out.more (Ae gw hg)).at2 hlt
   have hbs:=Ya ds ((nodes.length:Int)-1) k
   have hnsu:=Hx hlt
   have hbr:brAt ds ((nodes.length:Int)-1) k=if isBr (ds.getD k dev0).kind then ((nodes.length:Int)-1)+nbr ds k else -1:=rfl
   generalize ds.getD k dev0=d at *
   obtain ⟨q0,q1,q2,q3,q4,q5,q6,q7,q8,q9,q10,q11,q12⟩:=hc
   have ga:=Af wr (.cells #[.int .u8 d.kind,.string d.name,.slice An d.nodes.length cn,.int .i64 d.ref,.int .i64 d.val.1,.int .i64 d.val.2,.int .i64 d.wkind,.slice Av d.wvals.length cv,.slice As d.wsteps.length cs,.string d.mname,.int .u8 d.mkind,.slice Ag d.mg.length cg,.slice Am d.mv.length cm] 89) none
   obtain ⟨p0,-,-,-,-,-,-,-,-,-,-,-,-⟩:=DevBox.of (Blk.new wr #[.int .u8 d.kind,.string d.name,.slice An d.nodes.length cn,.int .i64 d.ref,.int .i64 d.val.1,.int .i64 d.val.2,.int .i64 d.wkind,.slice Av d.wvals.length cv,.slice As d.wsteps.length cs,.string d.mname,.int .u8 d.mkind,.slice Ag d.mg.length cg,.slice Am d.mv.length cm] 89)
   have hix:=Tryz.strings_IndexByte ⟨#[118,101,104,99,108,116]⟩ d.kind
   have hib:=A0g d.kind hat.kind.1 hat.kind.2
   have hown2:=hown.alloc (.cells #[.int .u8 d.kind,.string d.name,.slice An d.nodes.length cn,.int .i64 d.ref,.int .i64 d.val.1,.int .i64 d.val.2,.int .i64 d.wkind,.slice Av d.wvals.length cv,.slice As d.wsteps.length cs,.string d.mname,.int .u8 d.mkind,.slice Ag d.mg.length cg,.slice Am d.mv.length cm] 89)
   have HIX:=Ac hix
   have HBS:=Ac hbs
   clear hix hbs
   cases hb:isBr d.kind with
   | true =>
    rw [hb] at hib hnsu hbr
    rw [if_pos rfl] at hnsu hbr
    have HB:=Ac (And.intro hnsu hbr)
    have HI:=Ac (of_decide_eq_true hib)
    clear hnsu hbr hib hb
    go_wp2_with fail
    generalize wr.alloc (.cells #[.int .u8 d.kind,.string d.name,.slice An d.nodes.length cn,.int .i64 d.ref,.int .i64 d.val.1,.int .i64 d.val.2,.int .i64 d.wkind,.slice Av d.wvals.length cv,.slice As d.wsteps.length cs,.string d.mname,.int .u8 d.mkind,.slice Ag d.mg.length cg,.slice Am d.mv.length cm] 89)=wb at *
    refine (HIX.out _).mono ?_
    rintro e w1 ⟨rfl,rfl⟩
    generalize Lib.indexByte _ _=z at *
    have hi:=HI.out
    have hsb:=(Ae hg ga).size
    go_wp2_with (first
     | (at_builtin;refine Fp wa.heap.size rfl (.tmp 27) (.tmp 29) 30 3 (.int .i64 0) 1 8 rfl Tryz.underlying30 Cm rfl (by omega) (by omega) u5 k (ints (brs ds ((nodes.length:Int)-1) k)) #[.int .i64 ((nodes.length:Int)-1+(nbr ds k:Nat))] (by rfl) hown2 (by rfl) rfl (by simp [Value.oneCell']) (by omega) (by omega) ?_;intro v1 w1 hown1 hg1 hat1)
     | go_in)
    go_roundw
    case rel=>exact ⟨k+1,by omega,by go_num,Bl (by rw [HB.out.1];omega),by rw [HBS.out,HB.out.2,F4];exact hown1,Ep (Ae hg ga) hg1 (D4 hown2)⟩
    case measure=>simp [intOf];omega
   | false =>
    rw [hb] at hib hnsu hbr
    rw [if_neg (by simp)] at hnsu hbr
    have HB:=Ac (And.intro hnsu hbr)
    have HI:=Ac (of_decide_eq_false hib)
    clear hnsu hbr hib hb
    go_wp2_with fail
    generalize wr.alloc (.cells #[.int .u8 d.kind,.string d.name,.slice An d.nodes.length cn,.int .i64 d.ref,.int .i64 d.val.1,.int .i64 d.val.2,.int .i64 d.wkind,.slice Av d.wvals.length cv,.slice As d.wsteps.length cs,.string d.mname,.int .u8 d.mkind,.slice Ag d.mg.length cg,.slice Am d.mv.length cm] 89)=wb at *
    refine (HIX.out _).mono ?_
    rintro e w1 ⟨rfl,rfl⟩
    generalize Lib.indexByte _ _=z at *
    have hi:=HI.out
    have hsb:=(Ae hg ga).size
    go_wp2_with (first
     | (at_builtin;refine Fp wa.heap.size rfl (.tmp 27) (.tmp 29) 30 3 (.int .i64 0) 1 8 rfl Tryz.underlying30 Cm rfl (by omega) (by omega) u5 k (ints (brs ds ((nodes.length:Int)-1) k)) #[.int .i64 (-1)] (by rfl) hown2 (by rfl) rfl (by simp [Value.oneCell']) (by omega) (by omega) ?_;intro v1 w1 hown1 hg1 hat1)
     | go_in)
    go_roundw
    case rel=>exact ⟨k+1,by omega,by go_num,Bl (by rw [HB.out.1];omega),by rw [HBS.out,HB.out.2,F4];exact hown1,Ep (Ae hg ga) hg1 (D4 hown2)⟩
    case measure=>simp [intOf];omega
  ·obtain rfl:k=ds.length:=by omega
   have hr:=E5 hown
   have hf:=D4 hown
   have HR:=Ac hr
   clear hr
   go_wp2
   go_ret2
   exact ⟨_,rfl,HR.out,hf.mono (by omega),Ae gw hg⟩
end
end Go.Proofs.YtmfmfpmkgmkgiaaGreatDoor
