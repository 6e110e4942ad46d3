/- Dig Base BigA BigB. -/
import Derived.WalkKit
import Derived.WalkSpells
import Derived.WalkLawsBesides
import Derived.Lib.Hide
import Derived.Deep.OwnRows
import Derived.Test.YtckbiimikeiejaaGreatDoorProg
import Derived.BigQuiet
import Derived.Deep.QuietTactic
set_option linter.unusedVariables false
set_option linter.unusedSimpArgs false
set_option maxHeartbeats 40000000
namespace Go.Proofs.YtckbiimikeiejaaGreatDoor
theorem Ac {p : Prop} (h : p) : Go.RowKit.Hid p := h
section
def val (B:Nat):List Nat→Nat
 | []=>0
 | x::xs=>x+B*val B xs
def digF (B:Nat):Nat→Nat→List Nat
 | 0,_=>[]
 | f+1,n=>if n=0 then [] else n % B::digF B f (n/B)
def dig (B n:Nat):List Nat:=digF B n n
theorem Wn (B:Nat) (hB:2≤B):∀ f g n,n≤f→n≤g→digF B f n=digF B g n:=by
 intro f
 induction f with
 | zero =>
  intro g n hf _
  obtain rfl:n=0:=by omega
  cases g<;>simp [digF]
 | succ f ih =>
  intro g n hf hg
  cases g with
  | zero =>
   obtain rfl:n=0:=by omega
   simp [digF]
  | succ g =>
   simp only [digF]
   split
   ·rfl
   ·rename_i h
    have:n/B<n:=Nat.div_lt_self (by omega) (by omega)
    rw [ih g (n/B) (by omega) (by omega)]
theorem Dw (B:Nat):dig B 0=[]:=by simp [dig,digF]
theorem G8 (B n:Nat) (hB:2≤B) (h:n≠0):dig B n=n % B::dig B (n/B):=by
 unfold dig
 obtain ⟨m,rfl⟩:∃ m,n=m+1:=⟨n-1,by omega⟩
 simp only [digF]
 rw [if_neg (by omega)]
 have:(m+1)/B<m+1:=Nat.div_lt_self (by omega) (by omega)
 rw [Wn B hB m ((m+1)/B) ((m+1)/B) (by omega) (by omega)]
theorem Ck (B:Nat) (hB:2≤B) (n:Nat):val B (dig B n)=n:=by
 induction n using Nat.strongRecOn with
 | _ n ih =>
  by_cases h:n=0
  ·subst h;rw [Dw];rfl
  ·rw [G8 B n hB h]
   simp only [val]
   rw [ih (n/B) (Nat.div_lt_self (by omega) (by omega))]
   have:=Nat.mod_add_div n B
   omega
theorem Ev (B:Nat) (hB:2≤B) (n:Nat):∀ x∈dig B n,x<B:=by
 induction n using Nat.strongRecOn with
 | _ n ih =>
  by_cases h:n=0
  ·subst h;rw [Dw];simp
  ·rw [G8 B n hB h]
   intro x hx
   rcases List.mem_cons.1 hx with rfl | hx
   ·exact Nat.mod_lt _ (by omega)
   ·exact ih (n/B) (Nat.div_lt_self (by omega) (by omega)) x hx
def Iw (xs:List Nat):Prop:=∀ h:xs≠[],xs.getLast h≠0
theorem Ig (B n:Nat) (hB:2≤B):dig B n=[]↔n=0:=by
 constructor
 ·intro h;by_cases e:n=0
  ·exact e
  ·rw [G8 B n hB e] at h;simp at h
 ·rintro rfl;exact Dw B
theorem Pe (B:Nat) (hB:2≤B) (n:Nat):Iw (dig B n):=by
 induction n using Nat.strongRecOn with
 | _ n ih =>
  intro hne
  by_cases h:n=0
  ·subst h;simp [Dw] at hne
  ·have e:=G8 B n hB h
   have lt:n/B<n:=Nat.div_lt_self (by omega) (by omega)
   by_cases h2:n/B=0
   ·have e2:dig B n=[n % B]:=by rw [e,h2,Dw]
    simp only [e2,List.getLast_singleton]
    have:=Nat.mod_add_div n B
    rw [h2] at this
    omega
   ·have hne2:dig B (n/B)≠[]:=fun hh=>h2 ((Ig B _ hB).1 hh)
    have:=ih (n/B) lt hne2
    simp only [e]
    rw [List.getLast_cons hne2]
    exact this
theorem I4 (B:Nat) (hB:2≤B):∀ xs:List Nat,Iw xs→xs≠[]→0<val B xs:=by
 intro xs
 induction xs with
 | nil=>intro _ h;exact absurd rfl h
 | cons x xs ih =>
  intro hn _
  simp only [val]
  by_cases h:xs=[]
  ·subst h
   have:=hn (by simp)
   simp at this
   simp [val];omega
  ·have h1:Iw xs:=fun hh=>by have:=hn (by simp);rwa [List.getLast_cons h] at this
   have:=ih h1 h
   have:0<B*val B xs:=Nat.mul_pos (by omega) this
   omega
theorem Vk (B:Nat) (hB:2≤B):∀ xs:List Nat,(∀ x∈xs,x<B)→Iw xs→dig B (val B xs)=xs:=by
 intro xs
 induction xs with
 | nil=>intro _ _;exact Dw B
 | cons x xs ih =>
  intro hx hn
  have h0:0<val B (x::xs):=I4 B hB _ hn (by simp)
  rw [G8 B _ hB (by omega)]
  have hxB:x<B:=hx x (by simp)
  have e1:val B (x::xs) % B=x:=by simp only [val];rw [Nat.add_mul_mod_self_left,Nat.mod_eq_of_lt hxB]
  have e2:val B (x::xs)/B=val B xs:=by
   simp only [val];rw [Nat.add_mul_div_left _ _ (by omega),Nat.div_eq_of_lt hxB];omega
  rw [e1,e2]
  congr 1
  by_cases h:xs=[]
  ·subst h;exact Dw B
  ·refine ih (fun y hy=>hx y (by simp [hy])) fun hh=>?_
   have:=hn (by simp)
   rwa [List.getLast_cons h] at this
theorem He (B:Nat):∀ xs ys:List Nat,val B (xs++ys)=val B xs+B ^ xs.length*val B ys:=by
 intro xs ys
 induction xs with
 | nil=>simp [val]
 | cons x xs ih=>simp only [List.cons_append,val,ih,List.length_cons,Nat.pow_succ];grind
theorem Ef (B:Nat):∀ xs:List Nat,(∀ x∈xs,x<B)→val B xs<B ^ xs.length:=by
 intro xs
 induction xs with
 | nil=>intro _;simp [val]
 | cons x xs ih =>
  intro h
  have h1:=ih fun y hy=>h y (by simp [hy])
  have h2:=h x (by simp)
  simp only [val,List.length_cons,Nat.pow_succ]
  have:B*(val B xs+1)≤B*B ^ xs.length:=Nat.mul_le_mul_left _ h1
  grind
theorem A21 (B:Nat) (hB:2≤B):∀ xs:List Nat,Iw xs→xs≠[]→B ^ (xs.length-1)≤val B xs:=by
 intro xs
 induction xs with
 | nil=>intro _ h;exact absurd rfl h
 | cons x xs ih =>
  intro hn _
  by_cases h:xs=[]
  ·subst h
   have:=hn (by simp)
   simp at this
   simp [val];omega
  ·have h1:Iw xs:=fun hh=>by have:=hn (by simp);rwa [List.getLast_cons h] at this
   have h2:=ih h1 h
   have h3:xs.length≠0:=fun e=>h (List.eq_nil_of_length_eq_zero e)
   simp only [val,List.length_cons,Nat.add_sub_cancel]
   have e:B ^ xs.length=B*B ^ (xs.length-1):=by
    obtain ⟨k,hk⟩:∃ k,xs.length=k+1:=⟨xs.length-1,by omega⟩
    rw [hk,Nat.add_sub_cancel,Nat.pow_succ,Nat.mul_comm]
   rw [e]
   have:=Nat.mul_le_mul_left B h2
   omega
theorem Bz (B:Nat) (hB:2≤B) (n k:Nat):(dig B n).length≤k↔n<B ^ k:=by
 constructor
 ·intro h
  have:=Ef B _ (Ev B hB n)
  rw [Ck B hB] at this
  exact Nat.lt_of_lt_of_le this (Nat.pow_le_pow_right (by omega) h)
 ·intro h
  by_cases e:dig B n=[]
  ·simp [e]
  ·have:=A21 B hB _ (Pe B hB n) e
   rw [Ck B hB] at this
   by_cases hk:(dig B n).length≤k
   ·exact hk
   ·have:B ^ k≤B ^ ((dig B n).length-1):=Nat.pow_le_pow_right (by omega) (by omega)
    omega
theorem Fa (B:Nat) (hB:2≤B) (n:Nat):(dig B n).length=0↔n=0:=by
 rw [List.length_eq_zero_iff];exact Ig B n hB
theorem I5 (B:Nat):∀ k,val B (List.replicate k 0)=0
 | 0=>rfl
 | k+1=>by simp [List.replicate_succ,val,I5 B k]
def Cn (xs:List Nat):Nat→Nat
 | 0=>0
 | n+1=>if xs.getD n 0=0 then Cn xs n else n+1
theorem Kn (xs:List Nat):∀ n,Cn xs n≤n
 | 0=>Nat.le_refl _
 | n+1=>by unfold Cn;split;exact Nat.le_succ_of_le (Kn xs n);exact Nat.le_refl _
theorem K3 (xs:List Nat):∀ n,n≤xs.length→Iw (xs.take (Cn xs n))
 | 0,_=>by intro h;simp [Cn] at h
 | n+1,hn=>by
  unfold Cn
  split
  ·exact K3 xs n (by omega)
  ·rename_i h
   intro hne
   rw [List.getLast_eq_getElem]
   simp only [List.length_take,List.getElem_take]
   have:min (n+1) xs.length-1=n:=by omega
   simp only [this]
   rw [List.getD_eq_getElem?_getD,List.getElem?_eq_getElem (by omega)] at h
   simpa using h
theorem Ms (B:Nat) (xs:List Nat):∀ n,n≤xs.length→val B (xs.take (Cn xs n))=val B (xs.take n)
 | 0,_=>by simp [Cn]
 | n+1,hn=>by
  unfold Cn
  split
  ·rename_i h
   rw [Ms B xs n (by omega),List.take_succ_eq_append_getElem (by omega:n<xs.length),He]
   rw [List.getD_eq_getElem?_getD,List.getElem?_eq_getElem (by omega)] at h
   simp at h
   simp [val,h]
  ·rfl
theorem Tm (B:Nat) (hB:2≤B) (xs:List Nat) (h:∀ x∈xs,x<B):xs.take (Cn xs xs.length)=dig B (val B xs):=by
 have h1:=K3 xs xs.length (Nat.le_refl _)
 have h2:=Ms B xs xs.length (Nat.le_refl _)
 rw [List.take_length] at h2
 rw [←h2,Vk B hB _ (fun x hx=>h x (List.mem_of_mem_take hx)) h1]
theorem Eq {B:Nat} (hB:0<B) {xs:List Nat} (h:∀ x∈xs,x<B) (i:Nat):xs.getD i 0<B:=by
 rw [List.getD_eq_getElem?_getD]
 by_cases hi:i<xs.length
 ·rw [List.getElem?_eq_getElem hi];exact h _ (List.getElem_mem hi)
 ·rw [List.getElem?_eq_none (by omega)];exact hB
theorem B7 (B:Nat) (xs:List Nat) (i:Nat):val B (xs.take (i+1))=val B (xs.take i)+B ^ i*xs.getD i 0:=by
 by_cases hi:i<xs.length
 ·rw [List.take_succ_eq_append_getElem hi,He]
  simp [val,List.getD_eq_getElem?_getD,List.getElem?_eq_getElem hi,Nat.min_eq_left (Nat.le_of_lt hi)]
 ·rw [List.take_of_length_le (by omega),List.take_of_length_le (by omega)]
  simp [List.getD_eq_getElem?_getD,List.getElem?_eq_none (by omega:xs.length≤i)]
theorem Ds (B:Nat) (xs:List Nat) (k d:Nat) (h:k<xs.length):val B ((xs.set k d).take (k+1))=val B (xs.take k)+B ^ k*d:=by
 rw [B7,List.getD_eq_getElem?_getD,List.getElem?_set_self h,List.take_set_of_le (Nat.le_refl k)]
 rfl
theorem Ey {B:Nat} {xs:List Nat} (h:∀ x∈xs,x<B) (k d:Nat) (hd:d<B):∀ x∈xs.set k d,x<B:=by
 intro x hx
 rcases List.mem_or_eq_of_mem_set hx with hx | rfl
 ·exact h x hx
 ·exact hd
theorem Ce (B:Nat) (xs:List Nat) (k:Nat) (h:xs.length≤k):val B (xs.take k)=val B xs:=by rw [List.take_of_length_le h]
theorem N3 (B:Nat):∀ (xs:List Nat) (p d:Nat),p<xs.length→val B (xs.set p d)+B ^ p*xs[p]?.getD 0=val B xs+B ^ p*d:=by
 intro xs
 induction xs with
 | nil=>intro p d h;simp at h
 | cons x xs ih =>
  intro p d h
  cases p with
  | zero=>simp [val];omega
  | succ p =>
   have:=ih p d (by simpa using h)
   simp only [List.set_cons_succ,val,List.getElem?_cons_succ,Nat.pow_succ]
   grind
theorem Hf (B:Nat) (xs:List Nat) (k:Nat) (h:k<xs.length):val B (xs.drop k)=xs[k]?.getD 0+B*val B (xs.drop (k+1)):=by
 rw [List.drop_eq_getElem_cons h,List.getElem?_eq_getElem h];rfl
theorem Li (B:Nat) (xs:List Nat) (k d:Nat) (h:k<xs.length):val B ((xs.set k d).drop k)=d+B*val B (xs.drop (k+1)):=by
 rw [Hf B _ k (by simpa using h),List.getElem?_set_self h,List.drop_set_of_lt (by omega)]
 rfl
/-! ### a window of a list -/
def win (B:Nat) (us:List Nat) (o i:Nat):Nat:=val B ((us.drop o).take i)
theorem Lk (B:Nat) (us:List Nat) (o:Nat):win B us o 0=0:=by simp [win,val]
theorem G0 (B:Nat) (us:List Nat) (o i:Nat):win B us o (i+1)=win B us o i+B ^ i*us[o+i]?.getD 0:=by
 unfold win
 rw [B7,List.getD_eq_getElem?_getD,List.getElem?_drop]
theorem Vd (B:Nat) {us:List Nat} (h:∀ e∈us,e<B) (hB:0<B) (o i:Nat):win B us o i<B ^ i:=by
 unfold win
 refine Nat.lt_of_lt_of_le (Ef B _ fun x hx=>h x (List.mem_of_mem_drop (List.mem_of_mem_take hx))) ?_
 exact Nat.pow_le_pow_right hB (by simp;omega)
theorem Tp (B:Nat) {us us':List Nat} (o:Nat):∀ i,(∀ p,o≤p→p<o+i→us'[p]?.getD 0=us[p]?.getD 0)→win B us' o i=win B us o i
 | 0,_=>by rw [Lk,Lk]
 | i+1,h=>by rw [G0,G0,Tp B o i (fun p h1 h2=>h p h1 (by omega)),h (o+i) (by omega) (by omega)]
theorem Vz (B:Nat) (us:List Nat) (o i d:Nat) (h:o+i<us.length):win B (us.set (o+i) d) o (i+1)=win B us o i+B ^ i*d:=by
 have e:=Tp B (us:=us) (us':=us.set (o+i) d) o i (fun p h1 h2=>by rw [List.getElem?_set_ne (by omega)])
 rw [G0,List.getElem?_set_self h,e]
 rfl
end
section
open Go.RowKit
/-! ### what is handed back -/
theorem B9 {k:IntKind} {a b:Int} (h:a=b):Ending.returned (.int k a)=.returned (.int k b):=by rw [h]
theorem Ao {a b:Bool} (h:a=b):Ending.returned (.bool a)=.returned (.bool b):=by rw [h]
theorem Bl {k:IntKind} {a b:Int} (h:a=b):Value.int k a=.int k b:=by rw [h]
theorem Jq {A:Option Addr} {a b c:Nat} (h:a=b):Ending.returned (.slice A a c)=.returned (.slice A b c):=by rw [h]
/-! ### words that go round -/
theorem Ee (n:Int):IntKind.u64.wrap n=n % 18446744073709551616:=by
 simp [IntKind.wrap,IntKind.bits,IntKind.signed]
/-! ### memory that grows -/
theorem Ae {a b c:World} {row:Option Nat} (h:a.grownBy b row) (k:b.grownBy c row):a.grownBy c row :=
 ⟨k.os.trans h.os,k.tape.trans h.tape,k.output.trans h.output,Nat.le_trans h.size k.size,fun i hi hr=>(k.block i (Nat.lt_of_lt_of_le hi h.size) hr).trans (h.block i hi hr)⟩
theorem C0 {a b:World} {row:Option Nat} (h:a.grownBy b none):a.grownBy b row:=⟨h.os,h.tape,h.output,h.size,fun i hi _=>h.block i hi (by simp)⟩
theorem Al (w:World) (row:Option Nat):w.grownBy w row:=⟨rfl,rfl,rfl,Nat.le_refl _,fun _ _ _=>rfl⟩
theorem Aw {a b c:World} {row:Option Nat} {r:Nat} (h:a.grownBy b row) (k:b.grownBy c (some r)) (hr:a.heap.size≤r):a.grownBy c row :=
 ⟨k.os.trans h.os,k.tape.trans h.tape,k.output.trans h.output,Nat.le_trans h.size k.size,fun i hi hn=>(k.block i (Nat.lt_of_lt_of_le hi h.size) (fun e=>by injection e with e;omega)).trans (h.block i hi hn)⟩
theorem Af (w:World) (o:Obj) (row:Option Nat):w.grownBy (w.alloc o) row :=
 ⟨rfl,rfl,rfl,by simp,fun k hk _=>Below.heap_alloc _ _ _ hk⟩
theorem Ai (w:World) (row:Option Nat):w.grownBy w.drew row:=⟨rfl,rfl,rfl,Nat.le_refl _,fun _ _ _=>rfl⟩
theorem B4 {w w1:World} {row:Option Nat} (h:w.drew.grownBy w1 row):w.grownBy w1 row:=Ae (Ai w _) h
theorem Az (w:World) (n:Nat) (row:Option Nat):w.grownBy (w.drewN n) row:=⟨rfl,rfl,rfl,Nat.le_refl _,fun _ _ _=>rfl⟩
theorem Au (w:World) (b o:Nat) (v:Value):w.grownBy (w.setCell ⟨b,o,none⟩ v) (some b) :=
 ⟨rfl,rfl,rfl,by simp [World.setCell],fun k _ hk=>Below.heap_setCell _ _ _ _ (fun e=>hk (by rw [e]))⟩
theorem Yx {a b:World} (h:a.grownBy b none):Below a.heap.size a b:=⟨h.os,h.tape,h.output,h.size,fun k hk=>h.block k hk (by simp)⟩
theorem Hk {a b:World} (h:Below a.heap.size a b):a.grownBy b none:=⟨h.os,h.tape,h.output,h.size,fun k hk _=>h.block k hk⟩
theorem Do {a b:World} {row:Option Nat} (h:a.grownBy b row) {k:Nat} {o:Obj} (hk:a.heap[k]? = some o) (hr:some k≠row):b.heap[k]? = some o :=
 (h.block k (Array.getElem?_eq_some_iff.1 hk).1 hr).trans hk
theorem Dq {w:World} {k:Nat} {o:Obj} (hk:w.heap[k]? = some o):k<w.heap.size:=(Array.getElem?_eq_some_iff.1 hk).1
theorem Dp {w:World} {b o:Nat} {v:Value} (h:w.cell? ⟨b,o,none⟩=some v):b<w.heap.size:=World.block_lt_of_cell? w _ h
theorem Zg {w:World} {b o:Nat} {v:Value} (h:w.cell? ⟨b,o,none⟩=some v):w.heap.size≠b:=by have:=Dp h;omega
theorem Aj {a b:World} {row:Option Nat} (h:a.grownBy b row) {k o:Nat} {v:Value} (hc:a.cell? ⟨k,o,none⟩=some v) (hr:some k≠row):b.cell? ⟨k,o,none⟩=some v :=
 (World.cell?_of_block (w:=a) (h.block k (Dp hc) hr)).trans hc
theorem C4 {w:World} {b o:Nat} {cs:Array Value} {T:TypeId} {fr:Nat × Nat} (h:w.heap[b]? = some (.cells cs T fr)) (v:Value) :
  (w.setCell ⟨b,o,none⟩ v).heap[b]? = some (.cells (cs.setIfInBounds o v) T fr):=by
 simp [World.setCell,Array.getElem?_modify,h]
theorem Bi (w:World) (o:Obj):(w.alloc o).heap[w.heap.size]? = some o:=Array.getElem?_push_size
theorem Gu {w:World} {n:Nat} (o:Obj) (h:n=w.heap.size):(w.alloc o).heap[n]? = some o:=by subst h;exact Bi w o
theorem Ay {w:World} {b:Nat} {cs:Array Value} {T:TypeId} {fr:Nat × Nat} (h:w.heap[b]? = some (.cells cs T fr)) (o:Nat):w.cell? ⟨b,o,none⟩=cs[o]?:=by
 simp [World.cell?,h]
theorem Bj {w:World} {b:Nat} {cs:Array Value} {T:TypeId} (h:w.heap[b]? = some (.cells cs T (0,0))) (o:Nat):w.frozen? ⟨b,o,none⟩=false:=by
 simp [World.frozen?,h]
/-! ### slices whose elements take one cell -/
def Row (w:World) (v:Value) (cs:List Value):Prop :=
 ∃ A c,v=.slice A cs.length c∧cs.length≤c∧c≤9223372036854775807∧
  ((cs=[]∧(A=none→c=0))∨∃ b o,A=some ⟨b,o,none⟩∧∀ i,i<cs.length→w.cell? ⟨b,o+i,none⟩=cs[i]?)
theorem Row.open {w:World} {v:Value} {cs:List Value} (h:Row w v cs) :
  (∃ b o c,v=.slice (some ⟨b,o,none⟩) cs.length c∧cs.length≤c∧c≤9223372036854775807∧∀ i,i<cs.length→w.cell? ⟨b,o+i,none⟩=cs[i]?)∨(∃ A c,v=.slice A 0 c∧c≤9223372036854775807∧(A=none→c=0)∧cs=[]):=by
 obtain ⟨A,c,rfl,h1,h2,⟨h0,hn⟩ | ⟨b,o,rfl,hc⟩⟩:=h
 ·exact .inr ⟨A,c,by rw [h0];rfl,h2,hn,h0⟩
 ·exact .inl ⟨b,o,c,rfl,h1,h2,hc⟩
theorem Row.mk {w:World} {b o c:Nat} {cs:List Value} {n:Nat} (hn:n=cs.length) (h1:cs.length≤c) (h2:c≤9223372036854775807) (hc:∀ i,i<cs.length→w.cell? ⟨b,o+i,none⟩=cs[i]?):Row w (.slice (some ⟨b,o,none⟩) n c) cs :=
 ⟨_,_,by rw [hn],h1,h2,.inr ⟨b,o,rfl,hc⟩⟩
theorem Row.nil (w:World):Row w (.slice none 0 0) []:=⟨none,0,rfl,Nat.le_refl _,by omega,.inl ⟨rfl,fun _=>rfl⟩⟩
theorem Row.empty (w:World) {A:Option Addr} {c:Nat} (h:c≤9223372036854775807) (hn:A=none→c=0):Row w (.slice A 0 c) []:=⟨A,c,rfl,Nat.zero_le _,h,.inl ⟨rfl,hn⟩⟩
theorem Row.grown {w w':World} {v:Value} {cs:List Value} {row:Option Nat} (h:Row w v cs) (hg:w.grownBy w' row)
  (hr:∀ b o i c,i<cs.length→w.cell? ⟨b,o,none⟩=some c→cs[i]? = some c→some b≠row):Row w' v cs:=by
 obtain ⟨A,c,rfl,h1,h2,h3⟩:=h
 refine ⟨A,c,rfl,h1,h2,?_⟩
 rcases h3 with h3 | ⟨b,o,rfl,hc⟩
 ·exact .inl h3
 ·refine .inr ⟨b,o,rfl,fun i hi=>?_⟩
  have e:=hc i hi
  have e2:cs[i]? = some cs[i]:=List.getElem?_eq_getElem hi
  rw [e2] at e ⊢
  exact Aj hg e (hr b (o+i) i _ hi e e2)
theorem Row.more {w w':World} {v:Value} {cs:List Value} (h:Row w v cs) (hg:w.grownBy w' none):Row w' v cs:=h.grown hg (by simp)
theorem Row.take {w:World} {A:Option Addr} {n c:Nat} {cs:List Value} (h:Row w (.slice A n c) cs) (k:Nat) (hk:k≤cs.length):Row w (.slice A k c) (cs.take k):=by
 obtain ⟨A',c',he,h1,h2,h3⟩:=h
 injection he with e1 e2 e3
 subst e1 e3
 have hl:(cs.take k).length=k:=by simp;omega
 refine ⟨A,c,by rw [hl],by omega,h2,?_⟩
 rcases h3 with h3 | ⟨b,o,rfl,hc⟩
 ·exact .inl ⟨by rw [h3.1];simp,h3.2⟩
 ·refine .inr ⟨b,o,rfl,fun i hi=>?_⟩
  rw [hl] at hi
  rw [hc i (by omega),List.getElem?_take,if_pos hi]
/-! ### digits of 32 bits -/
def u32s (xs:List Nat):List Value:=xs.map fun (n:Nat)=>Value.int .u32 (n:Int)
theorem Ed (xs:List Nat):(u32s xs).length=xs.length:=by simp [u32s]
theorem Hd (xs:List Nat) (i:Nat) (h:i<xs.length):(u32s xs)[i]? = some (.int .u32 ((xs[i]?.getD 0:Nat):Int)):=by
 simp [u32s,List.getElem?_eq_getElem h]
theorem Xv (xs:List Nat) (k:Nat):(u32s xs).take k=u32s (xs.take k):=by simp [u32s,List.map_take]
def Nums (w:World) (v:Value) (xs:List Nat):Prop:=Row w v (u32s xs)∧∀ x∈xs,x<4294967296
theorem Nums.open {w:World} {v:Value} {xs:List Nat} (h:Nums w v xs) :
  (∃ b o c,v=.slice (some ⟨b,o,none⟩) xs.length c∧xs.length≤c∧c≤9223372036854775807∧∀ i,i<xs.length→w.cell? ⟨b,o+i,none⟩=some (.int .u32 ((xs[i]?.getD 0:Nat):Int)))∨(∃ A c,v=.slice A 0 c∧c≤9223372036854775807∧(A=none→c=0)∧xs=[]):=by
 rcases h.1.open with ⟨b,o,c,rfl,h1,h2,hc⟩ | ⟨A,c,rfl,hc,hn,h2⟩
 ·rw [Ed] at *
  exact .inl ⟨b,o,c,rfl,h1,h2,fun i hi=>(hc i hi).trans (Hd xs i hi)⟩
 ·exact .inr ⟨A,c,rfl,hc,hn,by simpa [u32s] using h2⟩
theorem Nums.lt {w:World} {v:Value} {xs:List Nat} (h:Nums w v xs) (i:Nat):xs[i]?.getD 0<4294967296:=by
 have:=Eq (B:=4294967296) (by omega) h.2 i
 rwa [List.getD_eq_getElem?_getD] at this
theorem Nums.mk {w:World} {b o c n:Nat} {xs:List Nat} (hn:n=xs.length) (h1:xs.length≤c) (h2:c≤9223372036854775807) (hc:∀ i,i<xs.length→w.cell? ⟨b,o+i,none⟩=some (.int .u32 ((xs[i]?.getD 0:Nat):Int))) (hx:∀ x∈xs,x<4294967296):Nums w (.slice (some ⟨b,o,none⟩) n c) xs :=
 ⟨Row.mk (by rw [Ed];exact hn) (by rw [Ed];exact h1) h2 (fun i hi=>by rw [Ed] at hi;rw [Hd xs i hi];exact hc i hi),hx⟩
theorem Nums.nil (w:World):Nums w (.slice none 0 0) []:=⟨Row.nil w,by simp⟩
theorem Nums.empty (w:World) {A:Option Addr} {c:Nat} (h:c≤9223372036854775807) (hn:A=none→c=0):Nums w (.slice A 0 c) []:=⟨Row.empty w h hn,by simp⟩
theorem Nums.more {w w':World} {v:Value} {xs:List Nat} (h:Nums w v xs) (hg:w.grownBy w' none):Nums w' v xs:=⟨h.1.more hg,h.2⟩
theorem Nums.form {w:World} {v:Value} {xs:List Nat} (h:Nums w v xs):∃ A c,v=.slice A xs.length c∧xs.length≤c∧c≤9223372036854775807:=by
 obtain ⟨A,c,rfl,h1,h2,_⟩:=h.1
 rw [Ed] at *
 exact ⟨A,c,rfl,h1,h2⟩
theorem Nums.take {w:World} {A:Option Addr} {n c:Nat} {xs:List Nat} (h:Nums w (.slice A n c) xs) (k:Nat) (hk:k≤xs.length):Nums w (.slice A k c) (xs.take k) :=
 ⟨by rw [←Xv];exact h.1.take k (by rw [Ed];exact hk),fun x hx=>h.2 x (List.mem_of_mem_take hx)⟩
def Dt (w:World) (b:Nat):Prop:=∀ o n,w.cell? ⟨b,o,none⟩≠some (.int .u32 n)
theorem Nums.drew {w:World} {v:Value} {xs:List Nat} (h:Nums w v xs):Nums w.drew v xs:=h.more (Ai _ _)
theorem Nums.other {w w':World} {v:Value} {xs:List Nat} {r:Nat} (h:Nums w v xs) (hg:w.grownBy w' (some r)) (hp:Dt w r):Nums w' v xs:=by
 refine ⟨h.1.grown hg fun b o i c hi hc hx e=>?_,h.2⟩
 injection e with e
 subst e
 rw [Ed] at hi
 rw [Hd xs i hi] at hx
 injection hx with hx
 subst hx
 exact hp _ _ hc
theorem Nums.apart {w w':World} {v:Value} {xs:List Nat} {r:Nat} (h:Nums w v xs) (hg:w.grownBy w' (some r)) (hne:v.ownBlock≠some r):Nums w' v xs:=by
 obtain ⟨⟨A,c,rfl,h1,h2,h3⟩,hx⟩:=h
 refine ⟨⟨A,c,rfl,h1,h2,?_⟩,hx⟩
 rcases h3 with h3 | ⟨b,o,rfl,hc⟩
 ·exact .inl h3
 ·refine .inr ⟨b,o,rfl,fun i hi=>?_⟩
  have e2:(u32s xs)[i]? = some (u32s xs)[i]:=List.getElem?_eq_getElem hi
  rw [e2]
  exact Aj hg ((hc i hi).trans e2) hne
/-! ### whole numbers behind pointers -/
def digs (z:Int):List Nat:=dig 4294967296 z.natAbs
def lim (z:Int):Nat:=(digs z).length
def sg (neg:Bool) (n:Nat):Int:=if neg then -(n:Int) else n
def IntAt (w:World) (b o:Nat) (z:Int):Prop :=
 ∃ v,w.cell? ⟨b,o,none⟩=some (.bool (decide (z<0)))∧w.cell? ⟨b,o+1,none⟩=some v∧Nums w v (digs z)
def IntB (w:World) (b:Nat) (z:Int):Prop :=
 ∃ v T,w.heap[b]? = some (.cells #[.bool (decide (z<0)),v] T (0,0))∧Nums w v (digs z)
theorem IntB.at {w:World} {b:Nat} {z:Int} (h:IntB w b z):IntAt w b 0 z:=by
 obtain ⟨v,T,hb,hn⟩:=h
 exact ⟨v,by rw [Ay hb];rfl,by rw [Ay hb];rfl,hn⟩
theorem Nums.not_int {w:World} {v:Value} {xs:List Nat} (h:Nums w v xs) (k:IntKind) (n:Int):v≠.int k n:=by
 obtain ⟨A,c,rfl,_⟩:=h.form
 simp
theorem IntB.plain {w:World} {b:Nat} {z:Int} (h:IntB w b z):Dt w b:=by
 obtain ⟨v,T,hb,hn⟩:=h
 intro o n
 rw [Ay hb]
 match o with
 | 0=>simp
 | 1=>simpa using hn.not_int .u32 n
 | _+2=>simp
theorem IntB.lt {w:World} {b:Nat} {z:Int} (h:IntB w b z):b<w.heap.size:=by
 obtain ⟨v,T,hb,_⟩:=h
 exact Dq hb
theorem IntAt.lt {w:World} {b o:Nat} {z:Int} (h:IntAt w b o z):b<w.heap.size:=by
 obtain ⟨v,hb,_⟩:=h
 exact Dp hb
theorem IntAt.more {w w':World} {b o:Nat} {z:Int} (h:IntAt w b o z) (hg:w.grownBy w' none):IntAt w' b o z:=by
 obtain ⟨v,h1,h2,hn⟩:=h
 exact ⟨v,Aj hg h1 (by simp),Aj hg h2 (by simp),hn.more hg⟩
theorem IntB.more {w w':World} {b:Nat} {z:Int} (h:IntB w b z) (hg:w.grownBy w' none):IntB w' b z:=by
 obtain ⟨v,T,hb,hn⟩:=h
 exact ⟨v,T,Do hg hb (by simp),hn.more hg⟩
theorem IntB.drew {w:World} {b:Nat} {z:Int} (h:IntB w b z):IntB w.drew b z:=h.more (Ai _ _)
theorem IntAt.drew {w:World} {b o:Nat} {z:Int} (h:IntAt w b o z):IntAt w.drew b o z:=h.more (Ai _ _)
theorem IntAt.other {w w':World} {b o r:Nat} {z:Int} (h:IntAt w b o z) (hg:w.grownBy w' (some r)) (hp:Dt w r) (hne:b≠r):IntAt w' b o z:=by
 obtain ⟨v,h1,h2,hn⟩:=h
 exact ⟨v,Aj hg h1 (by simpa using hne),Aj hg h2 (by simpa using hne),hn.other hg hp⟩
theorem IntB.other {w w':World} {b r:Nat} {z:Int} (h:IntB w b z) (hg:w.grownBy w' (some r)) (hp:Dt w r) (hne:b≠r):IntB w' b z:=by
 obtain ⟨v,T,hb,hn⟩:=h
 exact ⟨v,T,Do hg hb (by simpa using hne),hn.other hg hp⟩
theorem Vl (z:Int):∀ x∈digs z,x<4294967296:=Ev 4294967296 (by omega) _
theorem By (z:Int):val 4294967296 (digs z)=z.natAbs:=Ck 4294967296 (by omega) _
theorem A3a (z:Int):Iw (digs z):=Pe 4294967296 (by omega) _
theorem Wo:digs 0=[]:=rfl
theorem S8 (z:Int):digs z=[]↔z=0:=by unfold digs;rw [Ig _ _ (by omega)];omega
theorem Ek (z:Int) (k:Nat):lim z≤k↔z.natAbs<4294967296 ^ k:=Bz 4294967296 (by omega) _ _
theorem Sf (z:Int):lim z=0↔z=0:=by unfold lim;rw [List.length_eq_zero_iff];exact S8 z
theorem Qp (neg:Bool) (n:Nat):digs (sg neg n)=dig 4294967296 n:=by unfold digs sg;cases neg<;>simp
theorem V5 (neg:Bool) (n:Nat):decide (sg neg n<0)=(neg&&decide (n≠0)):=by
 unfold sg;cases neg
 ·simp
 ·by_cases h:n=0<;>simp [h]<;>omega
theorem Hp (z:Int):sg (decide (z<0)) z.natAbs=z:=by
 unfold sg;by_cases h:z<0<;>simp [h]<;>omega
theorem Nums.read {w:World} {v:Value} {xs:List Nat} (h:Nums w v xs) :
  ∃ A c,v=.slice A xs.length c∧xs.length≤c∧c≤9223372036854775807∧(0<xs.length→∃ b o,A=some ⟨b,o,none⟩∧∀ i,i<xs.length→w.cell? ⟨b,o+i,none⟩=some (.int .u32 ((xs[i]?.getD 0:Nat):Int))):=by
 rcases h.open with ⟨b,o,c,rfl,h1,h2,hc⟩ | ⟨A,c,rfl,hc,_,rfl⟩
 ·exact ⟨_,_,rfl,h1,h2,fun _=>⟨b,o,rfl,hc⟩⟩
 ·exact ⟨A,c,rfl,by simp,hc,fun h=>by simp at h⟩
theorem Nums.cells {w:World} {b o n c:Nat} {xs:List Nat} (h:Nums w (.slice (some ⟨b,o,none⟩) n c) xs):n=xs.length∧xs.length≤c∧c≤9223372036854775807∧∀ i,i<xs.length→w.cell? ⟨b,o+i,none⟩=some (.int .u32 ((xs[i]?.getD 0:Nat):Int)):=by
 rcases h.open with ⟨b',o',c',e,h1,h2,hc⟩ | ⟨A',c',e,hc,_,rfl⟩
 ·injection e with e1 e2 e3
  injection e1 with e1
  injection e1 with e4 e5
  subst e4 e5 e3
  exact ⟨e2,h1,h2,hc⟩
 ·injection e with e1 e2 e3
  subst e3
  exact ⟨e2,Nat.zero_le _,hc,fun i hi=>by simp at hi⟩
theorem Nums.addr {w:World} {A:Option Addr} {n c:Nat} {xs:List Nat} (h:Nums w (.slice A n c) xs):A=none∨∃ a,A=some a:=by
 cases A with
 | none=>exact .inl rfl
 | some a=>exact .inr ⟨a,rfl⟩
/-! ### digits that the call itself writes -/
def M8 (n:Nat) (e:TypeId):Obj:=.cells (u32s (List.replicate n 0)).toArray e
def OwnNums (w:World) (g:Nat) (xs:List Nat):Prop:=∃ T,w.heap[g]? = some (.cells (u32s xs).toArray T (0,0))
theorem OwnNums.cell {w:World} {g:Nat} {xs:List Nat} (h:OwnNums w g xs) (i:Nat) (hi:i<xs.length):w.cell? ⟨g,i,none⟩=some (.int .u32 ((xs[i]?.getD 0:Nat):Int)):=by
 obtain ⟨T,hh⟩:=h
 rw [Ay hh]
 simpa using Hd xs i hi
theorem OwnNums.free {w:World} {g:Nat} {xs:List Nat} (h:OwnNums w g xs) (i:Nat):w.frozen? ⟨g,i,none⟩=false:=by
 obtain ⟨T,hh⟩:=h
 exact Bj hh i
theorem OwnNums.set {w:World} {g:Nat} {xs:List Nat} (h:OwnNums w g xs) (i n:Nat):OwnNums (w.setCell ⟨g,i,none⟩ (.int .u32 (n:Int))) g (xs.set i n):=by
 obtain ⟨T,hh⟩:=h
 exact ⟨T,by rw [C4 hh];simp [u32s,List.map_set]⟩
theorem OwnNums.set' {w:World} {g:Nat} {xs:List Nat} (h:OwnNums w g xs) (i n:Nat) (z:Int) (hz:z=(n:Int)):OwnNums (w.setCell ⟨g,i,none⟩ (.int .u32 z)) g (xs.set i n):=by
 subst hz;exact h.set i n
theorem OwnNums.lt {w:World} {g:Nat} {xs:List Nat} (h:OwnNums w g xs):g<w.heap.size:=by
 obtain ⟨T,hh⟩:=h
 exact Dq hh
theorem OwnNums.made (w:World) (n:Nat) (e:TypeId):OwnNums (w.alloc (M8 n e)) w.heap.size (List.replicate n 0):=⟨e,Bi w _⟩
theorem OwnNums.nums {w:World} {g:Nat} {xs:List Nat} (h:OwnNums w g xs) (hx:∀ x∈xs,x<4294967296) {n c:Nat} (hn:n=xs.length) (h1:xs.length≤c) (h2:c≤9223372036854775807):Nums w (.slice (some ⟨g,0,none⟩) n c) xs :=
 Nums.mk hn h1 h2 (fun i hi=>by rw [Nat.zero_add];exact h.cell i hi) hx
theorem OwnNums.other {w w':World} {g r:Nat} {xs:List Nat} (h:OwnNums w g xs) (hg:w.grownBy w' (some r)) (hne:g≠r):OwnNums w' g xs:=by
 obtain ⟨T,hh⟩:=h
 exact ⟨T,Do hg hh (by simpa using hne)⟩
theorem OwnNums.more {w w':World} {g:Nat} {xs:List Nat} (h:OwnNums w g xs) (hg:w.grownBy w' none):OwnNums w' g xs:=by
 obtain ⟨T,hh⟩:=h
 exact ⟨T,Do hg hh (by simp)⟩
theorem Fx {P:Program} (t e:TypeId) (ht:P.underlying t=some (.slice e)) (hinfo:(P.info? e).map (fun i=>(i.zero,i.size,i.bytes))=some (some (.int .u32 0),1,4))
  (n:Nat) (hn:n≤35184372088832) (N:Int) (hN:N=(n:Int)) (W:World) :
  (Instr.makeSlice t (.int .i64 N) (.int .i64 N)).run P W=.ok (.slice (some ⟨W.heap.size,0,none⟩) n n) (W.alloc (M8 n e)):=by
 subst hN
 rw [run_make_row' t e (.int .u32 0) 4 ht hinfo rfl .i64 .i64 n (by omega) (by omega) W]
 congr 2
 unfold M8
 congr 1
 apply Array.ext
 ·simp [madeCells,u32s]
 ·intro i h1 h2
  simp [madeCells,u32s,Nat.mod_one]
end
section
open Go.RowKit
theorem Vx {xs:List Nat} {k:Nat} (hk:0<k) (h:(((xs[k-1]?.getD 0:Nat):Int)==0)=true):Cn xs (k-1)=Cn xs k:=by
 obtain ⟨m,rfl⟩:∃ m,k=m+1:=⟨k-1,by omega⟩
 simp only [Nat.add_sub_cancel] at h ⊢
 conv=>rhs;unfold Cn
 rw [if_pos (by rw [List.getD_eq_getElem?_getD];simpa using h)]
theorem Pt {xs:List Nat} {k:Nat} (hk:0<k) (h:(((xs[k-1]?.getD 0:Nat):Int)==0)=false):Cn xs k=k:=by
 obtain ⟨m,rfl⟩:∃ m,k=m+1:=⟨k-1,by omega⟩
 simp only [Nat.add_sub_cancel] at h ⊢
 unfold Cn
 rw [if_neg (by rw [List.getD_eq_getElem?_getD];simpa using h)]
theorem Ps {xs:List Nat} {k:Nat} (hk:¬ 0<k):Cn xs k=k:=by
 obtain rfl:k=0:=by omega
 rfl
theorem Hc (w:World) (v:Value) (xs:List Nat) (hx:Nums w v xs) :
  Calls Tryz.prog 155 #[v] w fun e w'=>∃ v',e=.returned v'∧Nums w v' (dig 4294967296 (val 4294967296 xs))∧w=w':=by
 rw [←Tm 4294967296 (by omega) xs hx.2]
 have hx':=hx
 rcases hx.open with ⟨b,o,c,rfl,h1,h2,hc⟩ | ⟨A0,c0,rfl,hc0,hn0,rfl⟩
 ·refine Calls.mono (R:=fun e w'=>e=.returned (.slice (some ⟨b,o,none⟩) (Cn xs xs.length) c)∧w'=w) ?_ (fun e w' ⟨he,hw⟩=>⟨_,he,hx'.take _ (Kn _ _),hw.symm⟩)
  clear hx hx'
  go_enter Tryz.func155,Tryz.ntmps155
  go_wp2
  go_loop [3] (fun n=>∃ k:Nat,k≤xs.length∧n=.int .i64 k∧Hid (Cn xs k=Cn xs xs.length)) (fun n=>(intOf n).toNat)
  case atStart=>exact ⟨_,Nat.le_refl _,rfl,rfl⟩
  case round =>
   obtain ⟨k,hk,rfl,ht⟩:=hrel
   have hpos:0<k→w.cell? ⟨b,o+(k-1),none⟩=some (.int .u32 ((xs[k-1]?.getD 0:Nat):Int)):=fun _=>hc (k-1) (by omega)
   clear hc
   go_wp2
   ·exact ⟨⟨k-1,by omega,by go_num,(Vx (by assumption) (by assumption)).trans ht⟩,by simp [intOf];omega⟩
   ·go_ret;exact ⟨Jq ((Pt (by assumption) (by assumption)).symm.trans ht),rfl⟩
   ·go_ret;exact ⟨Jq ((Ps (by assumption)).symm.trans ht),rfl⟩
 ·refine Calls.mono (R:=fun e w'=>e=.returned (.slice A0 0 c0)∧w'=w) ?_ (fun e w' ⟨he,hw⟩=>⟨_,he,Nums.empty w hc0 hn0,hw.symm⟩)
  clear hx hx'
  go_enter Tryz.func155,Tryz.ntmps155
  go_wp2
  go_loop [3] (fun n=>n=.int .i64 0) (fun n=>0)
  case atStart=>rfl
  case round =>
   obtain rfl:=hrel
   go_wp2
   go_ret
   exact ⟨rfl,rfl⟩
def cmpD (xs ys:List Nat):Nat→Int
 | 0=>0
 | k+1=>if xs[k]?.getD 0=ys[k]?.getD 0 then cmpD xs ys k else if xs[k]?.getD 0<ys[k]?.getD 0 then -1 else 1
def cmpL (xs ys:List Nat):Int:=if xs.length=ys.length then cmpD xs ys xs.length else if xs.length<ys.length then -1 else 1
theorem Vi {xs ys:List Nat} {k:Nat} (hk:0<k) (h:((((xs[k-1]?.getD 0:Nat):Int)) != ((ys[k-1]?.getD 0:Nat):Int))=false):cmpD xs ys (k-1)=cmpD xs ys k:=by
 obtain ⟨m,rfl⟩:∃ m,k=m+1:=⟨k-1,by omega⟩
 simp only [Nat.add_sub_cancel,bne_eq_false_iff_eq] at h ⊢
 rw [cmpD,if_pos (by omega)]
theorem Ql {xs ys:List Nat} {k:Nat} (hk:0<k) (h:((((xs[k-1]?.getD 0:Nat):Int)) != ((ys[k-1]?.getD 0:Nat):Int))=true):cmpD xs ys k=if xs[k-1]?.getD 0<ys[k-1]?.getD 0 then -1 else 1:=by
 obtain ⟨m,rfl⟩:∃ m,k=m+1:=⟨k-1,by omega⟩
 simp only [Nat.add_sub_cancel,bne_iff_ne,ne_eq] at h ⊢
 rw [cmpD,if_neg (by omega)]
theorem Qm (w:World) (b o c b' o' c':Nat) (xs ys:List Nat) (hl:Hid (xs.length=ys.length)) (h2:xs.length≤9223372036854775807)
  (hc:∀ i,i<xs.length→w.cell? ⟨b,o+i,none⟩=some (.int .u32 ((xs[i]?.getD 0:Nat):Int))) (hc':∀ i,i<xs.length→w.cell? ⟨b',o'+i,none⟩=some (.int .u32 ((ys[i]?.getD 0:Nat):Int))) :
  Calls Tryz.prog 231 #[.slice (some ⟨b,o,none⟩) xs.length c,.slice (some ⟨b',o',none⟩) xs.length c'] w fun e w'=>e=.returned (.int .i64 (cmpD xs ys xs.length))∧∃ n,w'=w.drewN n:=by
 go_enter Tryz.func231,Tryz.ntmps231
 go_wp2
 go_loopw [5] (fun i wr=>∃ k m:Nat,k≤xs.length∧i=.int .i64 ((k:Int)-1)∧wr=w.drewN m∧Hid (cmpD xs ys k=cmpD xs ys xs.length)) (fun i _=>(intOf i+1).toNat)
 case atStart=>exact ⟨_,0,Nat.le_refl _,rfl,rfl,rfl⟩
 case round =>
  obtain ⟨k,m,hk,rfl,rfl,ht⟩:=hrel
  by_cases hpos:0<k
  ·have g1:=hc (k-1) (by omega)
   have g2:=hc' (k-1) (by omega)
   have e1:(((k:Int)-1).toNat)=k-1:=by omega
   clear hc hc'
   by_cases hne:xs[k-1]?.getD 0=ys[k-1]?.getD 0
   ·have t1:((((xs[k-1]?.getD 0:Nat):Int)) != ((ys[k-1]?.getD 0:Nat):Int))=false:=by rw [bne_eq_false_iff_eq];omega
    have H:=Ac hne
    clear hne
    go_wp2
    go_quiet (fail)
    go_wp2
    exact ⟨⟨k-1,_,by omega,by go_num,rfl,(Vi hpos t1).trans ht⟩,by simp [intOf];omega⟩
   ·have t1:((((xs[k-1]?.getD 0:Nat):Int)) != ((ys[k-1]?.getD 0:Nat):Int))=true:=by rw [bne_iff_ne];omega
    have H:=Ac hne
    clear hne
    go_wp2
    go_quiet (fail)
    go_wp2
    go_quiet (fail)
    go_wp2
    ·go_ret
     exact ⟨B9 (by rw [←ht.out,Ql hpos t1,if_pos (by assumption)]),_,by rw [World.drewN_drewN,World.drewN_drewN]⟩
    ·go_ret
     exact ⟨B9 (by rw [←ht.out,Ql hpos t1,if_neg (by assumption)]),_,by rw [World.drewN_drewN,World.drewN_drewN]⟩
  ·go_wp2
   go_ret
   exact ⟨B9 (by rw [←ht.out];obtain rfl:k=0:=(by omega);rfl),m,rfl⟩
theorem Jw (w:World) (v1 v2:Value) (A A':Option Addr) (c c':Nat) (h1:v1=.slice A 0 c) (h2:v2=.slice A' 0 c') :
  Calls Tryz.prog 231 #[v1,v2] w fun e w'=>e=.returned (.int .i64 0)∧∃ n,w'=w.drewN n:=by
 subst h1 h2
 go_enter Tryz.func231,Tryz.ntmps231
 go_wp2
 go_loop [5] (fun i=>i=.int .i64 (-1)) (fun _=>0)
 case atStart=>rfl
 case round =>
  obtain rfl:=hrel
  go_wp2
  go_ret
  exact ⟨rfl,0,rfl⟩
theorem Qn (w:World) (A A':Option Addr) (n n' c c':Nat) (_hn:n≤9223372036854775807) (_hn':n'≤9223372036854775807) (h:¬ n=n') :
  Calls Tryz.prog 231 #[.slice A n c,.slice A' n' c'] w fun e w'=>e=.returned (.int .i64 (if n<n' then -1 else 1))∧∃ m,w'=w.drewN m:=by
 have t:(((n:Int)) != ((n':Int)))=true:=by rw [bne_iff_ne];omega
 have H:=Ac h
 clear h
 by_cases hl:n<n'
 all_goals
  rw [show (if n<n' then (-1:Int) else 1)=_ from by first | exact if_pos hl | exact if_neg hl]
  go_enter Tryz.func231,Tryz.ntmps231
  go_wp2
  go_ret
  exact ⟨rfl,0,rfl⟩
theorem Jj (w:World) (v1 v2:Value) (xs ys:List Nat) (hx:Nums w v1 xs) (hy:Nums w v2 ys) :
  Calls Tryz.prog 231 #[v1,v2] w fun e w'=>e=.returned (.int .i64 (cmpL xs ys))∧∃ n,w'=w.drewN n:=by
 unfold cmpL
 by_cases hlen:xs.length=ys.length
 ·rw [if_pos hlen]
  rcases hx.open with ⟨b,o,c,rfl,h1,h2,hc⟩ | ⟨A0,c0,rfl,hc0,hn0,rfl⟩
  ·rcases hy.open with ⟨b',o',c',rfl,h1',h2',hc'⟩ | ⟨A0,c0,rfl,hc0,hn0,rfl⟩
   ·rw [←hlen] at hc' ⊢
    exact Qm w b o c b' o' c' xs ys hlen (by omega) hc hc'
   ·simp only [List.length_nil] at hlen
    rw [hlen]
    exact Jw w _ _ _ _ _ _ rfl rfl
  ·obtain ⟨A',c',rfl,_,_⟩:=hy.form
   rw [←hlen]
   exact Jw w _ _ _ _ _ _ rfl rfl
 ·rw [if_neg hlen]
  obtain ⟨A,c,rfl,_,_⟩:=hx.form
  obtain ⟨A',c',rfl,_,_⟩:=hy.form
  exact Qn w _ _ _ _ _ _ (by omega) (by omega) hlen
def cmpN (a b:Nat):Int:=if a<b then -1 else if a=b then 0 else 1
theorem S4 {xs ys:List Nat} (hx:∀ x∈xs,x<4294967296) (hy:∀ y∈ys,y<4294967296):∀ k,cmpD xs ys k=cmpN (val 4294967296 (xs.take k)) (val 4294967296 (ys.take k))
 | 0=>by simp [cmpD,cmpN,val]
 | k+1=>by
  rw [cmpD,B7,B7,S4 hx hy k,List.getD_eq_getElem?_getD,List.getD_eq_getElem?_getD]
  have a1:=Ef 4294967296 (xs.take k) (fun x h=>hx x (List.mem_of_mem_take h))
  have a2:=Ef 4294967296 (ys.take k) (fun x h=>hy x (List.mem_of_mem_take h))
  have b1:4294967296 ^ (xs.take k).length≤4294967296 ^ k:=Nat.pow_le_pow_right (by omega) (by simp;omega)
  have b2:4294967296 ^ (ys.take k).length≤4294967296 ^ k:=Nat.pow_le_pow_right (by omega) (by simp;omega)
  generalize val 4294967296 (xs.take k)=a at *
  generalize val 4294967296 (ys.take k)=b at *
  generalize xs[k]?.getD 0=x at *
  generalize ys[k]?.getD 0=y at *
  generalize 4294967296 ^ k=p at *
  split
  ·rename_i h;subst h;unfold cmpN;simp
  ·rename_i h
   split
   ·rename_i h'
    have:p*(x+1)≤p*y:=Nat.mul_le_mul_left p h'
    rw [Nat.mul_add] at this
    unfold cmpN;rw [if_pos (by omega)]
   ·rename_i h'
    have:p*(y+1)≤p*x:=Nat.mul_le_mul_left p (by omega)
    rw [Nat.mul_add] at this
    unfold cmpN;rw [if_neg (by omega),if_neg (by omega)]
theorem Kx (a b:Nat):cmpL (dig 4294967296 a) (dig 4294967296 b)=cmpN a b:=by
 have hB:2≤4294967296:=by omega
 unfold cmpL
 split
 ·rename_i h
  rw [S4 (Ev _ hB a) (Ev _ hB b),List.take_length,h,List.take_length,Ck _ hB,Ck _ hB]
 ·rename_i h
  have l1:=Bz 4294967296 hB a
  have l2:=Bz 4294967296 hB b
  have g1:=Ef 4294967296 _ (Ev _ hB a)
  have g2:=Ef 4294967296 _ (Ev _ hB b)
  rw [Ck _ hB] at g1 g2
  split
  ·rename_i h'
   have:=mt (l2 (dig 4294967296 a).length).2 (by omega)
   unfold cmpN;rw [if_pos (by omega)]
  ·rename_i h'
   have:=mt (l1 (dig 4294967296 b).length).2 (by omega)
   unfold cmpN;rw [if_neg (by omega),if_neg (by omega)]
theorem A0y (w:World) (b:Nat) (c0 c1:Value) (neg:Bool) (v:Value) (xs:List Nat) (h0:w.cell? ⟨b,0,none⟩=some c0) (h1:w.cell? ⟨b,1,none⟩=some c1)
  (f0:w.frozen? ⟨b,0,none⟩=false) (f1:w.frozen? ⟨b,1,none⟩=false) (hx:Nums w v xs) :
  Calls Tryz.prog 154 #[.pointer (some ⟨b,0,none⟩),.bool neg,v] w fun e w'=>e=.returned (.pointer (some ⟨b,0,none⟩))∧
   ∃ v',Nums w v' (dig 4294967296 (val 4294967296 xs))∧w'=(w.setCell ⟨b,1,none⟩ v').setCell ⟨b,0,none⟩ (.bool (neg&&decide (0<(dig 4294967296 (val 4294967296 xs)).length))):=by
 cases neg
 all_goals
  go_enter Tryz.func154,Tryz.ntmps154
  go_wp2_with fail
  refine (Hc w v xs hx).mono ?_
  rintro e w' ⟨v',rfl,hv',rfl⟩
  obtain ⟨A,c,rfl,hlc,hc⟩:=hv'.form
  clear hx hlc hc
  go_wp2
  go_ret
  exact ⟨rfl,_,hv',by simp⟩
theorem Eh (w:World) (b:Nat) (z:Int) (neg:Bool) (v:Value) (xs:List Nat) (hb:IntB w b z) (hx:Nums w v xs) :
  Calls Tryz.prog 154 #[.pointer (some ⟨b,0,none⟩),.bool neg,v] w fun e w'=>e=.returned (.pointer (some ⟨b,0,none⟩))∧IntB w' b (sg neg (val 4294967296 xs))∧w.grownBy w' (some b):=by
 have hp:=hb.plain
 obtain ⟨v0,T,hh,_⟩:=hb
 refine (A0y w b _ _ neg v xs (Ay hh 0) (Ay hh 1) (Bj hh 0) (Bj hh 1) hx).mono ?_
 rintro e w' ⟨rfl,v',hv,rfl⟩
 have hg:w.grownBy ((w.setCell ⟨b,1,none⟩ v').setCell ⟨b,0,none⟩ (.bool (neg&&decide (0<(dig 4294967296 (val 4294967296 xs)).length)))) (some b):=Ae (Au w b 1 v') (Au _ b 0 _)
 refine ⟨rfl,⟨v',T,?_,?_⟩,hg⟩
 ·rw [C4 (C4 hh v'),V5]
  have:decide (0<(dig 4294967296 (val 4294967296 xs)).length)=decide (val 4294967296 xs≠0):=by
   have:=Fa 4294967296 (by omega) (val 4294967296 xs)
   rw [decide_eq_decide];omega
  rw [this]
  simp
 ·rw [Qp]
  exact hv.other hg hp
end
section
open Go.RowKit
theorem Fh:(Tryz.prog.info? 56).map (fun i=>(i.zero,i.size,i.bytes))=some (some (.int .u32 0),1,4):=by kernel_rfl
theorem Ks {os xs ys:List Nat} {k n x c y:Nat} (h:os.length=n+1∧(∀ d∈os,d<4294967296)∧val 4294967296 (os.take k)+4294967296 ^ k*c=val 4294967296 (xs.take k)+val 4294967296 (ys.take k))
  (hk:k<n) (hx:xs[k]?.getD 0=x) (hy:ys[k]?.getD 0=y) :
  (os.set k ((x+c+y) % 4294967296)).length=n+1∧(∀ d∈os.set k ((x+c+y) % 4294967296),d<4294967296)∧
   val 4294967296 ((os.set k ((x+c+y) % 4294967296)).take (k+1))+4294967296 ^ (k+1)*((x+c+y)/4294967296)=val 4294967296 (xs.take (k+1))+val 4294967296 (ys.take (k+1)):=by
 obtain ⟨h1,h2,h3⟩:=h
 refine ⟨by simpa using h1,Ey h2 _ _ (Nat.mod_lt _ (by omega)),?_⟩
 rw [Ds _ _ _ _ (by omega),B7,B7,List.getD_eq_getElem?_getD,List.getD_eq_getElem?_getD,hx,hy,Nat.pow_succ]
 have e:=Nat.mod_add_div (x+c+y) 4294967296
 generalize (x+c+y) % 4294967296=r at *
 generalize (x+c+y)/4294967296=q at *
 generalize 4294967296 ^ k=p at *
 have:p*r+p*4294967296*q=p*(x+c+y):=by rw [←e];grind
 grind
theorem A1t (w:World) (v1 v2:Value) (xs ys:List Nat) (hx:Nums w v1 xs) (hy:Nums w v2 ys) (hl:xs.length≤1099511627776) (hle:ys.length≤xs.length) :
  Calls Tryz.prog 230 #[v1,v2] w fun e w'=>∃ v os,e=.returned v∧Nums w' v os∧val 4294967296 os=val 4294967296 xs+val 4294967296 ys∧os.length=xs.length+1∧w.grownBy w' none:=by
 have bx:=hx.lt
 have by':=hy.lt
 obtain ⟨A,c,rfl,h1,h2,hA⟩:=hx.read
 obtain ⟨A',c',rfl,h1',h2',hA'⟩:=hy.read
 have t:decide ((xs.length:Int)<(ys.length:Int))=false:=by simp;omega
 have hmk:=Fx (P:=Tryz.prog) 47 56 Tryz.underlying47 Fh (xs.length+1) (by omega) ((xs.length:Int)+1) (by omega)
 go_enter Tryz.func230,Tryz.ntmps230
 go_wp2
 go_loopw [6,22] (fun cy i wr=>∃ (k c:Nat) (os:List Nat),k≤xs.length∧i=.int .i64 k∧cy=.int .u64 c∧c≤1∧w.grownBy wr none∧OwnNums wr w.heap.size os∧w.heap.size<wr.heap.size∧
   Hid (os.length=xs.length+1∧(∀ d∈os,d<4294967296)∧val 4294967296 (os.take k)+4294967296 ^ k*c=val 4294967296 (xs.take k)+val 4294967296 (ys.take k))) (fun _ i _=>xs.length-(intOf i).toNat)
 case atStart=>exact ⟨0,0,_,by omega,rfl,rfl,by omega,Af _ _ _,OwnNums.made _ _ _,by simp,by simp,by simp,by simp [val]⟩
 case round =>
  obtain ⟨k,cy,os,hk,rfl,rfl,hcy,hg,ho,hsz,hv⟩:=hrel
  clear hmk
  by_cases hlt:k<xs.length
  ·obtain ⟨b,o,rfl,hc⟩:=hA (by omega)
   have g1:=Aj hg (hc k hlt) (by simp)
   have g2:=ho.cell k (by rw [hv.out.1];omega)
   have g3:=ho.free k
   have b1:=bx k
   clear hc hA
   generalize hxk:xs[k]?.getD 0=x at g1 b1
   have HX:=Ac hxk
   clear hxk
   by_cases hy2:k<ys.length
   ·obtain ⟨b',o',rfl,hc'⟩:=hA' (by omega)
    have g4:=Aj hg (hc' k hy2) (by simp)
    have b2:=by' k
    clear hA' hc'
    generalize hyk:ys[k]?.getD 0=y at g4 b2
    have HY:=Ac hyk
    clear hyk bx by'
    go_wp2
    exact ⟨⟨k+1,(x+cy+y)/4294967296,_,by omega,by go_num,Bl (by omega),by omega,Aw hg (Au _ _ _ _) (Nat.le_refl _),ho.set' k ((x+cy+y) % 4294967296) _ (by omega),by simpa using hsz,Ac (Ks hv.out hlt HX.out HY.out)⟩,by simp [intOf];omega⟩
   ·clear hA'
    go_wp2
    exact ⟨⟨k+1,(x+cy+0)/4294967296,_,by omega,by go_num,Bl (by omega),by omega,Aw hg (Au _ _ _ _) (Nat.le_refl _),ho.set' k ((x+cy+0) % 4294967296) _ (by omega),by simpa using hsz,Ac (Ks hv.out hlt HX.out (by rw [List.getElem?_eq_none (by omega)];rfl))⟩,by simp [intOf];omega⟩
  ·obtain rfl:k=xs.length:=by omega
   have g2:=ho.cell xs.length (by rw [hv.out.1];omega)
   have g3:=ho.free xs.length
   go_wp2
   go_ret
   have hs:=ho.set' xs.length cy (cy:Int) rfl
   obtain ⟨v1,v2,v3⟩:=hv.out
   refine ⟨_,os.set xs.length cy,rfl,hs.nums (Ey v2 _ _ (by omega)) (by simp [v1]) (by simp;omega) (by omega),?_,by simp [v1],Aw hg (Au _ _ _ _) (Nat.le_refl _)⟩
   have e:=Ds 4294967296 os xs.length cy (by omega)
   rw [Ce _ _ _ (by simp;omega)] at e
   rw [e,v3,Ce _ xs _ (Nat.le_refl _),Ce _ ys _ hle]
theorem A1u (w:World) (v1 v2:Value) (xs ys:List Nat) (hx:Nums w v1 xs) (hy:Nums w v2 ys) (hl:ys.length≤1099511627776) (hle:xs.length<ys.length) :
  Calls Tryz.prog 230 #[v1,v2] w fun e w'=>∃ v os,e=.returned v∧Nums w' v os∧val 4294967296 os=val 4294967296 xs+val 4294967296 ys∧os.length=ys.length+1∧w.grownBy w' none:=by
 have by':=hy.lt
 have bx:=hx.lt
 obtain ⟨A',c',rfl,h1',h2',hA'⟩:=hy.read
 obtain ⟨A,c,rfl,h1,h2,hA⟩:=hx.read
 have t:decide ((xs.length:Int)<(ys.length:Int))=true:=by simp;omega
 have hmk:=Fx (P:=Tryz.prog) 47 56 Tryz.underlying47 Fh (ys.length+1) (by omega) ((ys.length:Int)+1) (by omega)
 go_enter Tryz.func230,Tryz.ntmps230
 go_wp2
 go_loopw [6,22] (fun cy i wr=>∃ (k c':Nat) (os:List Nat),k≤ys.length∧i=.int .i64 k∧cy=.int .u64 c'∧c'≤1∧w.grownBy wr none∧OwnNums wr w.heap.size os∧w.heap.size<wr.heap.size∧
   Hid (os.length=ys.length+1∧(∀ d∈os,d<4294967296)∧val 4294967296 (os.take k)+4294967296 ^ k*c'=val 4294967296 (ys.take k)+val 4294967296 (xs.take k))) (fun _ i _=>ys.length-(intOf i).toNat)
 case atStart=>exact ⟨0,0,_,by omega,rfl,rfl,by omega,Af _ _ _,OwnNums.made _ _ _,by simp,by simp,by simp,by simp [val]⟩
 case round =>
  obtain ⟨k,cy,os,hk,rfl,rfl,hcy,hg,ho,hsz,hv⟩:=hrel
  clear hmk
  by_cases hlt:k<ys.length
  ·obtain ⟨b,o,rfl,hc⟩:=hA' (by omega)
   have g1:=Aj hg (hc k hlt) (by simp)
   have g2:=ho.cell k (by rw [hv.out.1];omega)
   have g3:=ho.free k
   have b1:=by' k
   clear hc hA'
   generalize hxk:ys[k]?.getD 0=x at g1 b1
   have HX:=Ac hxk
   clear hxk
   by_cases hy2:k<xs.length
   ·obtain ⟨b',o',rfl,hc'⟩:=hA (by omega)
    have g4:=Aj hg (hc' k hy2) (by simp)
    have b2:=bx k
    clear hA hc'
    generalize hyk:xs[k]?.getD 0=y at g4 b2
    have HY:=Ac hyk
    clear hyk by' bx
    go_wp2
    exact ⟨⟨k+1,(x+cy+y)/4294967296,_,by omega,by go_num,Bl (by omega),by omega,Aw hg (Au _ _ _ _) (Nat.le_refl _),ho.set' k ((x+cy+y) % 4294967296) _ (by omega),by simpa using hsz,Ac (Ks hv.out hlt HX.out HY.out)⟩,by simp [intOf];omega⟩
   ·clear hA
    go_wp2
    exact ⟨⟨k+1,(x+cy+0)/4294967296,_,by omega,by go_num,Bl (by omega),by omega,Aw hg (Au _ _ _ _) (Nat.le_refl _),ho.set' k ((x+cy+0) % 4294967296) _ (by omega),by simpa using hsz,Ac (Ks hv.out hlt HX.out (by rw [List.getElem?_eq_none (by omega)];rfl))⟩,by simp [intOf];omega⟩
  ·obtain rfl:k=ys.length:=by omega
   have g2:=ho.cell ys.length (by rw [hv.out.1];omega)
   have g3:=ho.free ys.length
   go_wp2
   go_ret
   have hs:=ho.set' ys.length cy (cy:Int) rfl
   obtain ⟨v1,v2,v3⟩:=hv.out
   refine ⟨_,os.set ys.length cy,rfl,hs.nums (Ey v2 _ _ (by omega)) (by simp [v1]) (by simp;omega) (by omega),?_,by simp [v1],Aw hg (Au _ _ _ _) (Nat.le_refl _)⟩
   have e:=Ds 4294967296 os ys.length cy (by omega)
   rw [Ce _ _ _ (by simp;omega)] at e
   rw [e,v3,Ce _ ys _ (Nat.le_refl _),Ce _ xs _ (by omega)];omega
theorem Wc (w:World) (v1 v2:Value) (xs ys:List Nat) (hx:Nums w v1 xs) (hy:Nums w v2 ys) (hl:xs.length≤1099511627776) (hl':ys.length≤1099511627776) :
  Calls Tryz.prog 230 #[v1,v2] w fun e w'=>∃ v os,e=.returned v∧Nums w' v os∧val 4294967296 os=val 4294967296 xs+val 4294967296 ys∧w.grownBy w' none:=by
 by_cases h:xs.length<ys.length
 ·exact (A1u w v1 v2 xs ys hx hy hl' h).mono fun e w' ⟨v,os,a,b,c,_,d⟩=>⟨v,os,a,b,c,d⟩
 ·exact (A1t w v1 v2 xs ys hx hy hl (by omega)).mono fun e w' ⟨v,os,a,b,c,_,d⟩=>⟨v,os,a,b,c,d⟩
theorem Lf {os xs ys:List Nat} {k n x c y:Nat} (h:os.length=n∧(∀ d∈os,d<4294967296)∧val 4294967296 (os.take k)+val 4294967296 (ys.take k)=val 4294967296 (xs.take k)+4294967296 ^ k*c)
  (hk:k<n) (hx:xs[k]?.getD 0=x) (hy:ys[k]?.getD 0=y) (d c':Nat) (hd:d+(c+y)=x+4294967296*c') (hd':d<4294967296) :
  (os.set k d).length=n∧(∀ e∈os.set k d,e<4294967296)∧
   val 4294967296 ((os.set k d).take (k+1))+val 4294967296 (ys.take (k+1))=val 4294967296 (xs.take (k+1))+4294967296 ^ (k+1)*c':=by
 obtain ⟨h1,h2,h3⟩:=h
 refine ⟨by simpa using h1,Ey h2 _ _ hd',?_⟩
 rw [Ds _ _ _ _ (by omega),B7,B7,List.getD_eq_getElem?_getD,List.getD_eq_getElem?_getD,hx,hy,Nat.pow_succ]
 generalize 4294967296 ^ k=p at *
 have:p*d+p*(c+y)=p*x+p*4294967296*c':=by rw [←Nat.mul_add,hd];grind
 grind
theorem Pq (w:World) (v1 v2:Value) (xs ys:List Nat) (hx:Nums w v1 xs) (hy:Nums w v2 ys) (hl:xs.length≤1099511627776) (hle:Hid (ys.length≤xs.length∧val 4294967296 ys≤val 4294967296 xs)) :
  Calls Tryz.prog 232 #[v1,v2] w fun e w'=>∃ v os,e=.returned v∧Nums w' v os∧val 4294967296 os+val 4294967296 ys=val 4294967296 xs∧os.length=xs.length∧w.grownBy w' none:=by
 have bx:=hx.lt
 have by':=hy.lt
 obtain ⟨A,c,rfl,h1,h2,hA⟩:=hx.read
 obtain ⟨A',c',rfl,h1',h2',hA'⟩:=hy.read
 have hmk:=Fx (P:=Tryz.prog) 47 56 Tryz.underlying47 Fh xs.length (by omega) (xs.length:Int) rfl
 go_enter Tryz.func232,Tryz.ntmps232
 go_wp2
 go_loopw [6,14] (fun cy i wr=>∃ (k c:Nat) (os:List Nat),k≤xs.length∧i=.int .i64 k∧cy=.int .u64 c∧c≤1∧w.grownBy wr none∧OwnNums wr w.heap.size os∧w.heap.size<wr.heap.size∧
   Hid (os.length=xs.length∧(∀ d∈os,d<4294967296)∧val 4294967296 (os.take k)+val 4294967296 (ys.take k)=val 4294967296 (xs.take k)+4294967296 ^ k*c)) (fun _ i _=>xs.length-(intOf i).toNat)
 case atStart=>exact ⟨0,0,_,by omega,rfl,rfl,by omega,Af _ _ _,OwnNums.made _ _ _,by simp,by simp,by simp,by simp [val]⟩
 case round =>
  obtain ⟨k,cy,os,hk,rfl,rfl,hcy,hg,ho,hsz,hv⟩:=hrel
  clear hmk
  by_cases hlt:k<xs.length
  ·obtain ⟨b,o,rfl,hc⟩:=hA (by omega)
   have g1:=Aj hg (hc k hlt) (by simp)
   have g2:=ho.cell k (by rw [hv.out.1];omega)
   have g3:=ho.free k
   have b1:=bx k
   have hc0:=hc k hlt
   clear hc hA
   generalize hxk:xs[k]?.getD 0=x at g1 b1 hc0
   have HX:=Ac hxk
   clear hxk
   by_cases hy2:k<ys.length
   ·obtain ⟨b',o',rfl,hc'⟩:=hA' (by omega)
    have g4:=Aj hg (hc' k hy2) (by simp)
    have b2:=by' k
    clear hA' hc'
    generalize hyk:ys[k]?.getD 0=y at g4 b2
    have HY:=Ac hyk
    clear hyk bx by'
    have ne:=Zg hc0
    clear hc0
    go_wp2
    ·exact ⟨⟨k+1,1,_,by omega,by go_num,rfl,by omega,Aw hg (Au _ _ _ _) (Nat.le_refl _),ho.set' k (x+4294967296-(cy+y)) _ (by rw [Ee];omega),by simpa using hsz,Ac (Lf hv.out hlt HX.out HY.out _ 1 (by omega) (by omega))⟩,by simp [intOf];omega⟩
    ·exact ⟨⟨k+1,0,_,by omega,by go_num,rfl,by omega,Aw hg (Au _ _ _ _) (Nat.le_refl _),ho.set' k (x-(cy+y)) _ (by omega),by simpa using hsz,Ac (Lf hv.out hlt HX.out HY.out _ 0 (by omega) (by omega))⟩,by simp [intOf];omega⟩
   ·have HY:Hid (ys[k]?.getD 0=0):=by
     have:ys[k]? = none:=List.getElem?_eq_none (by omega)
     exact Ac (by rw [this];rfl)
    clear hA'
    have ne:=Zg hc0
    clear hc0 bx by'
    go_wp2
    ·exact ⟨⟨k+1,1,_,by omega,by go_num,rfl,by omega,Aw hg (Au _ _ _ _) (Nat.le_refl _),ho.set' k (x+4294967296-(cy+0)) _ (by rw [Ee];omega),by simpa using hsz,Ac (Lf hv.out hlt HX.out HY.out _ 1 (by omega) (by omega))⟩,by simp [intOf];omega⟩
    ·exact ⟨⟨k+1,0,_,by omega,by go_num,rfl,by omega,Aw hg (Au _ _ _ _) (Nat.le_refl _),ho.set' k (x-(cy+0)) _ (by omega),by simpa using hsz,Ac (Lf hv.out hlt HX.out HY.out _ 0 (by omega) (by omega))⟩,by simp [intOf];omega⟩
  ·obtain rfl:k=xs.length:=by omega
   go_wp2
   go_ret
   obtain ⟨v1,v2,v3⟩:=hv.out
   refine ⟨_,os,rfl,ho.nums v2 v1.symm (by omega) (by omega),?_,v1,hg⟩
   rw [Ce _ os _ (by omega),Ce _ ys _ hle.out.1,Ce _ xs _ (Nat.le_refl _)] at v3
   have l1:=hle.out.2
   have l2:=Ef 4294967296 os v2
   rw [v1] at l2
   generalize 4294967296 ^ xs.length=p at *
   obtain rfl | rfl:cy=0∨cy=1:=by omega
   ·omega
   ·omega
end
end Go.Proofs.YtckbiimikeiejaaGreatDoor
