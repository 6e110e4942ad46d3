/- LeA OrdA OrdB RefQ. -/
import Derived.Test.YtmfmfpmkgmkgiaaGreatDoorMaq
import Derived.Test.YtmfmfpmkgmkgiaaGreatDoorMax
import Derived.Test.YtmfmfpmkgmkgiaaGreatDoorMas
import Derived.Deep.RegionHeld3
set_option linter.unusedVariables false
set_option linter.unusedSimpArgs false
set_option maxHeartbeats 40000000
namespace Go.Proofs.YtmfmfpmkgmkgiaaGreatDoor
section
open Go.RowKit Go.Maps
open Rat
def StOK (L:List StampP) (n:Nat):Prop:=∀ x∈L,0≤x.row∧0≤x.col∧((x.kind=1∧x.col<n)∨(x.kind=2∧x.col<n)∨(x.kind=3∧x.col<64)∨(x.kind=4∧x.col=0))
theorem StOK.of {L:List StampP} {n r k:Nat} {c:Int} (h:StOK L n) (hk:k<5) (hh:hasQ L (r*5+k) c=true):0≤c∧((k=1∧c<n)∨(k=2∧c<n)∨(k=3∧c<64)∨(k=4∧c=0)):=by
 obtain ⟨x,hx,he⟩:=List.any_eq_true.1 hh
 obtain ⟨e1,e2⟩:=Fw.1 he
 obtain ⟨h0,h1,h2⟩:=h x hx
 unfold StampP.cellAt at e1
 omega
theorem Uo {L:List StampP} {r k:Nat} {c:Int} (hh:hasQ L (r*5+k) c=true) (h0:accQ L (r*5+k) c≠0):Mf (c,Fi (accQ L (r*5+k) c) (E4 L r))∈Bb L r k:=by
 unfold Bb J0
 refine List.mem_map.2 ⟨_,List.mem_filterMap.2 ⟨c,(J8 _ _ _).2 hh,?_⟩,rfl⟩
 unfold F9;rw [if_neg h0]
theorem Rz {L:List StampP} {i m:Nat} {p:Int × Int} (h:p∈J0 L i m):hasQ L i p.1=true∧accQ L i p.1≠0∧p.2=Fi (accQ L i p.1) m:=by
 obtain ⟨c,hc,he⟩:=List.mem_filterMap.1 h
 unfold F9 at he
 split at he
 ·cases he
 ·rename_i h0
  injection he with he
  subst he
  exact ⟨(J8 _ _ _).1 hc,h0,rfl⟩
end
section
open Go.RowKit Go.Maps
open Rat
/-! ### two devices changed about -/
def sw (i k j:Nat):Nat:=if j=i then k else if j=k then i else j
def Ec (l:List DevP) (i k:Nat):List DevP:=(l.set i (l.getD k dev0)).set k (l.getD i dev0)
def Ly (z:Int):Prop:=z=114∨z=103∨z=105
structure Swap (l:List DevP) (i k:Nat):Prop where
 hi:i<l.length
 hk:k<l.length
 pi:Ly (l.getD i dev0).kind
 pk:Ly (l.getD k dev0).kind
theorem Bx (l:List DevP) (i k:Nat):(Ec l i k).length=l.length:=by simp [Ec]
theorem Hb {l:List DevP} {i k:Nat} (h:Swap l i k) (j:Nat):(Ec l i k).getD j dev0=l.getD (sw i k j) dev0:=by
 have hi:=h.hi
 have hk:=h.hk
 unfold Ec sw
 simp only [List.getD_eq_getElem?_getD,List.getElem?_set,List.length_set]
 by_cases h1:j=i
 ·subst h1
  by_cases h2:k=j
  ·subst h2;simp [hi]
  ·simp [h2,hi]
 ·by_cases h2:j=k
  ·subst h2;simp [h1,hk]
  ·simp [h1,h2,Ne.symm h1,Ne.symm h2]
theorem Ok {i k j n:Nat} (hi:i<n) (hk:k<n) (hj:j<n):sw i k j<n:=by
 unfold sw
 split
 ·omega
 ·split<;>omega
theorem Vv (i k j:Nat):sw i k (sw i k j)=j:=by
 unfold sw
 by_cases h1:j=i
 ·subst h1;by_cases h2:k=j<;>simp [h2]
 ·by_cases h2:j=k
  ·subst h2;simp [h1]
  ·simp [h1,h2]
theorem Lg {l:List DevP} {i k:Nat} (h:Swap l i k) (T:Int→Bool) (t1:T 114=false) (t2:T 103=false) (t3:T 105=false) (j:Nat) :
  T ((Ec l i k).getD j dev0).kind=T (l.getD j dev0).kind∧(T (l.getD j dev0).kind=true→(Ec l i k).getD j dev0=l.getD j dev0):=by
 have hp:∀ z,Ly z→T z=false:=fun z hz=>by rcases hz with rfl | rfl | rfl<;>assumption
 rw [Hb h]
 unfold sw
 by_cases h1:j=i
 ·subst h1;rw [if_pos rfl,hp _ h.pi,hp _ h.pk];simp
 ·rw [if_neg h1]
  by_cases h2:j=k
  ·subst h2;rw [if_pos rfl,hp _ h.pi,hp _ h.pk];simp
  ·rw [if_neg h2];exact ⟨rfl,fun _=>rfl⟩
theorem O0 {l:List DevP} {i k:Nat} (h:Swap l i k):∀ t,t≤l.length→nbr (Ec l i k) t=nbr l t
 | 0,_=>by simp [nbr]
 | t+1,ht=>by
  rw [Hx (by rw [Bx];omega),Hx (by omega),O0 h t (by omega),(Lg h isBr rfl rfl rfl t).1]
theorem Yb {l:List DevP} {i k:Nat} (h:Swap l i k) (n0:Int):brs (Ec l i k) n0 l.length=brs l n0 l.length:=by
 unfold brs
 refine List.map_congr_left fun j hj=>?_
 have hj:=List.mem_range.1 hj
 unfold brAt
 rw [(Lg h isBr rfl rfl rfl j).1,O0 h j (by omega)]
theorem K6 {l:List DevP} {i k:Nat} (h:Swap l i k):∀ t,Cp (Ec l i k) t=Cp l t
 | 0=>rfl
 | t+1=>by rw [Eu,Eu,K6 h t,(Lg h Bp rfl rfl rfl t).1]
def Cs (f:Bf) (i k:Nat):Bf:={ f with devs:=Ec f.devs i k }
theorem Ni {f:Bf} {i k:Nat} (h:Swap f.devs i k):Co (Cs f i k)=Co f:=by
 unfold Co Cs
 simp only [Bx]
 exact K6 h _
theorem Oh {f:Bf} {i k:Nat} (h:Swap f.devs i k) (segs:List Int) (b:Nat) (hb:b<(Co f).length):H9 (Cs f i k) segs b↔H9 f segs b:=by
 unfold H9 segN
 rw [Ni h]
 obtain ⟨j,e,hj,hbt⟩:=Lv (x:=(Co f).getD b 0) (D:=f.devs.length) (ds:=f.devs) (by
  rw [List.getD_eq_getElem?_getD,List.getElem?_eq_getElem hb];exact List.getElem_mem hb)
 rw [e,Int.toNat_natCast]
 rw [show (Cs f i k).devs=Ec f.devs i k from rfl,(Lg h Bp rfl rfl rfl j).2 hbt]
theorem V3 {f:Bf} {i k:Nat} (h:Swap f.devs i k) (segs:List Int):Fg (Cs f i k) segs=Fg f segs:=by
 unfold Fg
 rw [Ni h]
 congr 1
 rw [decide_eq_decide]
 exact ⟨fun hh b hb=>(Oh h segs b hb).1 (hh b hb),fun hh b hb=>(Oh h segs b hb).2 (hh b hb)⟩
theorem Xi {f:Bf} {i k:Nat} (h:Swap f.devs i k) (segs:List Int) (j:Nat):segI (Cs f i k) segs j=segI f segs (sw i k j):=by
 unfold segI
 rw [show (Cs f i k).devs=Ec f.devs i k from rfl,Hb h,K6 h]
 by_cases h1:j=i
 ·subst h1
  rw [show sw j k j=k by simp [sw]]
  have:Bp (f.devs.getD k dev0).kind=false:=by rcases h.pk with e | e | e<;>rw [e]<;>rfl
  rw [this];rfl
 ·by_cases h2:j=k
  ·subst h2
   rw [show sw i j j=i by simp [sw,h1]]
   have:Bp (f.devs.getD i dev0).kind=false:=by rcases h.pi with e | e | e<;>rw [e]<;>rfl
   rw [this];rfl
  ·rw [show sw i k j=j by simp [sw,h1,h2]]
theorem To {f:Bf} {i k:Nat} (h:Swap f.devs i k):unk (Cs f i k)=unk f:=by
 unfold unk Cs
 simp only [Bx]
 rw [O0 h _ (Nat.le_refl _)]
theorem Uj {l:List DevP} {i k:Nat} (h:Swap l i k) (d:DevP):G4 (Ec l i k) d=G4 l d:=by
 unfold G4
 have:decide (((Ec l i k).getD d.ref.toNat dev0).kind=118)=decide ((l.getD d.ref.toNat dev0).kind=118):=(Lg h (fun z=>decide (z=118)) rfl rfl rfl d.ref.toNat).1
 rw [Bx,this]
theorem So {l:List DevP}:(Cx l).Nodup↔∀ a b,a<l.length→b<l.length→(l.getD a dev0).name=(l.getD b dev0).name→a=b:=by
 unfold List.Nodup
 rw [List.pairwise_iff_getElem]
 have hl:(Cx l).length=l.length:=by simp [Cx]
 have hg:∀ a (ha:a<l.length),(Cx l)[a]'(by omega)=(l.getD a dev0).name:=fun a ha=>by
  simp [Cx,List.getD_eq_getElem?_getD,List.getElem?_eq_getElem ha]
 constructor
 ·intro h a b ha hb e
  rcases Nat.lt_trichotomy a b with h1 | h1 | h1
  ·exact absurd (by rw [hg a ha,hg b hb];exact e) (h a b (by omega) (by omega) h1)
  ·exact h1
  ·exact absurd (by rw [hg a ha,hg b hb];exact e.symm) (h b a (by omega) (by omega) h1)
 ·intro h a b ha hb hab e
  rw [hg a (by omega),hg b (by omega)] at e
  have:=h a b (by omega) (by omega) e
  omega
theorem Us {l:List DevP} {i k:Nat} (h:Swap l i k) (hn:(Cx l).Nodup):(Cx (Ec l i k)).Nodup:=by
 rw [So] at hn ⊢
 rw [Bx]
 intro a b ha hb e
 rw [Hb h,Hb h] at e
 have:=hn _ _ (Ok h.hi h.hk ha) (Ok h.hi h.hk hb) e
 rw [←Vv i k a,this,Vv]
theorem Uf {f:Bf} {i k:Nat} (h:Swap f.devs i k) (hd:Em f=true):Em (Cs f i k)=true:=by
 unfold Em at hd ⊢
 rw [decide_eq_true_iff] at hd ⊢
 intro j hj
 rw [show (Cs f i k).devs=Ec f.devs i k from rfl,Bx] at hj
 have:=hd _ (Ok h.hi h.hk hj)
 rw [show (Cs f i k).devs=Ec f.devs i k from rfl,show (Cs f i k).nodes=f.nodes from rfl,Hb h]
 unfold devB at this ⊢
 rw [Uj h];exact this
theorem Ui {f:Bf} {i k:Nat} (h:Swap f.devs i k) (hf:Cq f=0):Cq (Cs f i k)=0:=by
 have hh:(Fv f&&Ca f&&f.nodes.all D3&&Em f&&decide (Cx f.devs).Nodup)=true:=by
  cases e:(Fv f&&Ca f&&f.nodes.all D3&&Em f&&decide (Cx f.devs).Nodup) with
  | true=>rfl
  | false=>rw [Cq,e] at hf;simp at hf
 have hu:unk f≤48:=by
  rw [Cq,hh,if_pos rfl] at hf
  by_cases hu:unk f≤48
  ·exact hu
  ·rw [if_neg hu] at hf;exact absurd hf (by decide)
 simp only [Bool.and_eq_true,decide_eq_true_eq] at hh
 obtain ⟨⟨⟨⟨h1,h2⟩,h3⟩,h4⟩,h5⟩:=hh
 have e2:Ca (Cs f i k)=true:=by
  unfold Ca at h2 ⊢
  simp only [Cs,Bx]
  exact h2
 have e:(Fv (Cs f i k)&&Ca (Cs f i k)&&(Cs f i k).nodes.all D3&&Em (Cs f i k)&&decide (Cx (Cs f i k).devs).Nodup)=true:=by
  simp only [Bool.and_eq_true,decide_eq_true_eq]
  exact ⟨⟨⟨⟨h1,e2⟩,h3⟩,Uf h h4⟩,Us h h5⟩
 rw [Cq,e,if_pos rfl,To h,if_pos hu]
theorem Sa {f:Bf} {i k:Nat} (h:Swap f.devs i k) {mode method:Int} {step:Int × Int} {segs:List Int} (hf:Cz f mode method step segs=0):Cz (Cs f i k) mode method step segs=0:=by
 obtain ⟨h1,h2,h3⟩:=L5 hf
 unfold Cz
 rw [Ui h h1,h2,V3 h,h3];rfl
/-! ### their stamps -/
def swZ (i k:Nat) (c:Int):Int:=if c=i then k else if c=k then i else c
theorem R8 (i k:Nat) (c:Int):swZ i k (swZ i k c)=c:=by
 unfold swZ
 by_cases h1:c=i
 ·subst h1;by_cases h2:(k:Int)=i<;>simp [h2]
 ·by_cases h2:c=k
  ·subst h2;simp [h1]
  ·simp [h1,h2]
theorem A11 (i k j:Nat):swZ i k (j:Int)=(sw i k j:Nat):=by
 unfold swZ sw
 by_cases h1:j=i
 ·subst h1;simp
 ·by_cases h2:j=k
  ·subst h2;simp [h1,show ¬ (j:Int)=i by omega]
  ·simp [h1,h2,show ¬ (j:Int)=i by omega,show ¬ (j:Int)=k by omega]
theorem A12 (i k:Nat) (c:Int):swZ i k c<0↔c<0:=by
 unfold swZ
 by_cases h1:c=i
 ·subst h1;simp;omega
 ·by_cases h2:c=k
  ·subst h2;simp [h1];omega
  ·simp [h1,h2]
def trS (i k:Nat) (x:StampP):StampP:=if x.kind=3 then { x with col:=swZ i k x.col } else x
theorem Uu (i k:Nat) {kd:Int} (h:kd≠3) (r c:Int) (q:Rat):(put1 kd r c q).map (trS i k)=put1 kd r c q:=by
 unfold put1;split
 ·rfl
 ·simp [trS,h]
theorem A0l (i k:Nat) (r c:Int) (q:Rat):(put1 3 r c q).map (trS i k)=put1 3 r (swZ i k c) q:=by
 unfold put1
 simp only [A12];split
 ·rfl
 ·simp [trS]
theorem Xn (i k:Nat) (d:DevP) (br:List Int) (a b mode method:Int) (step:Int × Int) (seg:Nat) (h:swZ i k a=b) (hp:Ly d.kind∨a=b) :
  (Cb d br a mode method step seg).map (trS i k)=Cb d br b mode method step seg:=by
 have p1:=fun r c q=>Uu i k (kd:=1) (by decide) r c q
 have p2:=fun r c q=>Uu i k (kd:=2) (by decide) r c q
 have p4:=fun r c q=>Uu i k (kd:=4) (by decide) r c q
 have p3:=fun r c q=>A0l i k r c q
 rcases hp with hp | rfl
 ·unfold Cb
  rcases hp with e | e | e<;>rw [e]<;>simp [C7,p1,p3,h]
 ·have m:∀ (P:Prop) [Decidable P] (X Y:List StampP),(if P then X else Y).map (trS i k)=if P then X.map (trS i k) else Y.map (trS i k):=fun P _ X Y=>by split<;>rfl
  unfold Cb
  simp only [m,C7,outL,Bw,Gv,D8,List.map_append,p1,p2,p3,p4,h,List.map_nil]
theorem In {f:Bf} {i k:Nat} (h:Swap f.devs i k) (mode method:Int) (step:Int × Int) (segs:List Int) (j:Nat) :
  Es (Cs f i k) mode method step segs j=(Es f mode method step segs (sw i k j)).map (trS i k):=by
 unfold Es
 rw [Xi h,Xn i k _ _ ((sw i k j:Nat):Int) (j:Int) _ _ _ _ (by rw [A11,Vv]) ?_]
 ·rw [show (Cs f i k).devs=Ec f.devs i k from rfl,show (Cs f i k).nodes=f.nodes from rfl,Hb h,Bx,Yb h]
 ·unfold sw
  by_cases h1:j=i
  ·subst h1;rw [if_pos rfl];exact .inl h.pk
  ·rw [if_neg h1]
   by_cases h2:j=k
   ·subst h2;rw [if_pos rfl];exact .inl h.pi
   ·rw [if_neg h2];exact .inr rfl
/-! ### their sums -/
def OKK (x:StampP):Prop:=x.kind=1∨x.kind=2∨x.kind=3∨x.kind=4
def ccS (i k kk:Nat) (c:Int):Int:=if kk=3 then swZ i k c else c
theorem Z6 {x:StampP} (hx:OKK x) (i k r kk:Nat) (hk:kk<5) (c:Int):hitB (r*5+kk) c (trS i k x)=hitB (r*5+kk) (ccS i k kk c) x:=by
 rw [Bool.eq_iff_iff,Fw,Fw]
 unfold trS ccS
 by_cases h3:x.kind=3
 ·rw [if_pos h3]
  have e:∀ y:StampP,y.kind=3→(y.cellAt=r*5+kk→kk=3):=fun y hy=>by unfold StampP.cellAt;rw [hy];omega
  constructor
  ·rintro ⟨h1,h2⟩
   have hk3:=e _ (by exact h3) h1
   refine ⟨h1,?_⟩
   rw [if_pos hk3,←h2,R8]
  ·rintro ⟨h1,h2⟩
   have hk3:=e _ h3 h1
   rw [if_pos hk3] at h2
   exact ⟨h1,by show swZ i k x.col=c;rw [h2,R8]⟩
 ·rw [if_neg h3]
  have e:x.cellAt=r*5+kk→kk≠3:=fun hy=>by unfold StampP.cellAt at hy;rcases hx with h | h | h | h<;>rw [h] at hy h3<;>omega
  constructor
  ·rintro ⟨h1,h2⟩;rw [if_neg (e h1)];exact ⟨h1,h2⟩
  ·rintro ⟨h1,h2⟩;rw [if_neg (e h1)] at h2;exact ⟨h1,h2⟩
theorem A1s {L:List StampP} (hL:∀ x∈L,OKK x) (i k r kk:Nat) (hk:kk<5) (c:Int):accQ (L.map (trS i k)) (r*5+kk) c=accQ L (r*5+kk) (ccS i k kk c):=by
 induction L with
 | nil=>rfl
 | cons x L ih =>
  rw [List.map_cons,accQ,accQ,Z6 (hL x (.head _)) i k r kk hk,ih fun y hy=>hL y (.tail _ hy)]
  rw [show (trS i k x).val=x.val by unfold trS;split<;>rfl]
theorem Z5 {L:List StampP} (hL:∀ x∈L,OKK x) (i k r kk:Nat) (hk:kk<5) (c:Int):hasQ (L.map (trS i k)) (r*5+kk) c=hasQ L (r*5+kk) (ccS i k kk c):=by
 unfold hasQ
 induction L with
 | nil=>rfl
 | cons x L ih=>rw [List.map_cons,List.any_cons,List.any_cons,Z6 (hL x (.head _)) i k r kk hk,ih fun y hy=>hL y (.tail _ hy)]
def I3 (F:Nat→Rat):Nat→Rat
 | 0=>0
 | n+1=>I3 F n+F n
theorem Qg (St:Nat→List StampP) (i:Nat) (c:Int):∀ n,accQ (C6 St n) i c=I3 (fun j=>accQ (St j) i c) n
 | 0=>rfl
 | n+1=>by rw [C6,Md,Qg St i c n];rfl
theorem Qq (St:Nat→List StampP) (i:Nat) (c:Int):∀ n,hasQ (C6 St n) i c=true↔∃ j,j<n∧hasQ (St j) i c=true
 | 0=>by simp [C6,hasQ]
 | n+1=>by
  rw [C6,show hasQ (C6 St n++St n) i c=(hasQ (C6 St n) i c||hasQ (St n) i c) by simp [hasQ],Bool.or_eq_true,Qq St i c n]
  constructor
  ·rintro (⟨j,h1,h2⟩ | h)
   ·exact ⟨j,by omega,h2⟩
   ·exact ⟨n,by omega,h⟩
  ·rintro ⟨j,h1,h2⟩
   by_cases hj:j=n
   ·subst hj;exact .inr h2
   ·exact .inl ⟨j,by omega,h2⟩
theorem R7 (F:Nat→Rat) (i:Nat) (v:Rat):∀ n,I3 (fun j=>if j=i then v else F j) n=I3 F n+(if i<n then v-F i else 0)
 | 0=>by simp [I3,Rat.add_zero]
 | n+1=>by
  rw [I3,I3,R7 F i v n]
  by_cases h:n=i
  ·subst h;simp;grind
  ·simp only [if_neg h]
   by_cases h2:i<n
   ·simp only [if_pos h2,if_pos (show i<n+1 by omega)];grind
   ·simp only [if_neg h2,if_neg (show ¬ i<n+1 by omega)];grind
theorem A1y (F:Nat→Rat) {i k n:Nat} (hi:i<n) (hk:k<n):I3 (fun j=>F (sw i k j)) n=I3 F n:=by
 have e:(fun j=>F (sw i k j))=fun j=>if j=k then F i else (fun j=>if j=i then F k else F j) j:=by
  funext j
  unfold sw
  by_cases h1:j=i
  ·subst h1;by_cases h2:j=k
   ·subst h2;simp
   ·simp [h2]
  ·by_cases h2:j=k
   ·subst h2;simp [h1]
   ·simp [h1,h2]
 rw [e,R7,R7,if_pos hi,if_pos hk]
 by_cases h:k=i
 ·subst h;simp;grind
 ·rw [if_neg h];grind
structure Alike (L M:List StampP) (s:Int→Int):Prop where
 inv:∀ c,s (s c)=c
 has:∀ r kk c,kk<5→hasQ M (r*5+kk) c=hasQ L (r*5+kk) (if kk=3 then s c else c)
 acc:∀ r kk c,kk<5→accQ M (r*5+kk) c=accQ L (r*5+kk) (if kk=3 then s c else c)
theorem U9 {f:Bf} {i k:Nat} (h:Swap f.devs i k) (mode method:Int) (step:Int × Int) (segs:List Int) (hok:∀ j,j<f.devs.length→∀ x∈Es f mode method step segs j,OKK x) :
  Alike (Dl f mode method step segs) (Dl (Cs f i k) mode method step segs) (swZ i k):=by
 have hlen:(Cs f i k).devs.length=f.devs.length:=Bx _ _ _
 refine ⟨R8 i k,fun r kk c hk=>?_,fun r kk c hk=>?_⟩
 ·unfold Dl
  rw [Bool.eq_iff_iff,Qq,Qq,hlen]
  constructor
  ·rintro ⟨j,hj,h1⟩
   have hl:=Ok h.hi h.hk hj
   rw [In h,Z5 (hok _ hl) i k r kk hk] at h1
   exact ⟨_,hl,h1⟩
  ·rintro ⟨j,hj,h1⟩
   refine ⟨sw i k j,Ok h.hi h.hk hj,?_⟩
   rw [In h,Vv,Z5 (hok _ hj) i k r kk hk]
   exact h1
 ·unfold Dl
  rw [Qg,Qg,hlen,←A1y (fun j=>accQ (Es f mode method step segs j) (r*5+kk) (if kk=3 then swZ i k c else c)) h.hi h.hk]
  have key:∀ n,n≤f.devs.length→I3 (fun j=>accQ (Es (Cs f i k) mode method step segs j) (r*5+kk) c) n=I3 (fun j=>accQ (Es f mode method step segs (sw i k j)) (r*5+kk) (if kk=3 then swZ i k c else c)) n:=by
   intro n
   induction n with
   | zero=>exact fun _=>rfl
   | succ n ih =>
    intro hn
    rw [I3,I3,ih (by omega),In h,A1s (hok _ (Ok h.hi h.hk (by omega))) i k r kk hk]
    rfl
  exact key _ (Nat.le_refl _)
theorem Alike.mult {L M:List StampP} {s:Int→Int} (h:Alike L M s) (r:Nat):E4 M r=E4 L r:=by
 refine (J9 M r).unique ⟨fun k c hk hh=>?_,fun m' hm=>?_⟩
 ·rw [h.has r k c hk] at hh
  rw [h.acc r k c hk]
  exact (J9 L r).1 k _ hk hh
 ·refine (J9 L r).2 m' fun k c hk hh=>?_
  have e:(if k=3 then s (if k=3 then s c else c) else (if k=3 then s c else c))=c:=by
   by_cases h3:k=3
   ·simp [h3,h.inv]
   ·simp [h3]
  have:=hm k (if k=3 then s c else c) hk (by rw [h.has r k _ hk,e];exact hh)
  rw [h.acc r k _ hk,e] at this
  exact this
theorem Xg {l m:List Int} (hl:Fl l) (hm:Fl m) (h:∀ x,x∈l↔x∈m):l=m:=by
 refine List.Perm.eq_of_pairwise (le:=(· < ·)) (fun a b _ _ h1 h2=>absurd h1 (by omega)) hl hm ?_
 exact (List.perm_ext_iff_of_nodup (hl.imp fun h=>by intro e;omega) (hm.imp fun h=>by intro e;omega)).2 h
theorem Alike.cells {L M:List StampP} {s:Int→Int} (h:Alike L M s) (r:Nat) {kk:Nat} (hk:kk<5) (h3:kk≠3):Bb M r kk=Bb L r kk:=by
 have e1:G2 M (r*5+kk)=G2 L (r*5+kk):=Xg (Je _ _) (Je _ _) fun x=>by
  rw [J8,J8,h.has r kk x hk,if_neg h3]
 unfold Bb J0
 rw [e1,h.mult r]
 congr 2
 funext c
 unfold F9
 rw [h.acc r kk c hk,if_neg h3]
theorem Alike.k {L M:List StampP} {s:Int→Int} (h:Alike L M s) (r:Nat):kOf M r=kOf L r:=by
 unfold kOf
 rw [h.mult r,h.acc r 4 0 (by omega),if_neg (by omega)]
theorem Alike.symm {L M:List StampP} {s:Int→Int} (h:Alike L M s):Alike M L s:=by
 have e:∀ (k:Nat) (c:Int),(if k=3 then s (if k=3 then s c else c) else (if k=3 then s c else c))=c:=fun k c=>by
  by_cases h3:k=3
  ·simp [h3,h.inv]
  ·simp [h3]
 exact ⟨h.inv,fun r k c hk=>by rw [h.has r k _ hk,e],fun r k c hk=>by rw [h.acc r k _ hk,e]⟩
theorem Alike.wide {L M:List StampP} {s:Int→Int} (h:Alike L M s) (r:Nat) (hw:It L r=true):It M r=true:=by
 unfold It at hw ⊢
 rw [List.all_eq_true] at hw ⊢
 simp only [E0,Ex,I0,List.mem_append,List.mem_map,List.mem_cons,List.not_mem_nil,or_false,decide_eq_true_eq] at hw ⊢
 intro x hx
 rcases hx with ((hx | hx) | hx) | hx
 ·refine hw x (.inl (.inl (.inl ?_)))
  simp only [Dk,h.mult r,h.k r] at hx
  exact hx
 ·refine hw x (.inl (.inl (.inr ?_)))
  simpa [Dk,h.cells r (kk:=1) (by omega) (by omega)] using hx
 ·refine hw x (.inl (.inr ?_))
  simpa [Dk,h.cells r (kk:=2) (by omega) (by omega)] using hx
 ·obtain ⟨y,hy,rfl⟩:=hx
  simp only [Dk,show ¬ ((2:Nat)=0) by omega,show ¬ ((2:Nat)=1) by omega,if_false] at hy
  unfold Bb at hy
  obtain ⟨p,hp,rfl⟩:=List.mem_map.1 hy
  obtain ⟨q1,q2,q3⟩:=Rz hp
  rw [h.has r 3 _ (by omega),if_pos rfl] at q1
  rw [h.acc r 3 _ (by omega),if_pos rfl] at q2 q3
  have:=Uo q1 q2
  refine hw _ (.inr ⟨Mf (s p.1,Fi (accQ L (r*5+3) (s p.1)) (E4 L r)),?_,?_⟩)
  ·simp only [Dk,show ¬ ((2:Nat)=0) by omega,show ¬ ((2:Nat)=1) by omega,if_false]
   exact this
  ·unfold Mf
   rw [q3,h.mult r]
theorem Alike.bE {L M:List StampP} {s:Int→Int} (h:Alike L M s) (n:Nat):Fm M n=Fm L n:=by
 unfold Fm
 have:(∀ r,r<n→It M r=true)↔∀ r,r<n→It L r=true:=⟨fun hh r hr=>h.symm.wide r (hh r hr),fun hh r hr=>h.wide r (hh r hr)⟩
 simp only [this]
def RowP.less (r:RowP):RowP:={ r with s:=[] }
theorem Alike.row {L M:List StampP} {s:Int→Int} (h:Alike L M s) (r:Nat):(Dk M r).less=(Dk L r).less:=by
 unfold RowP.less Dk
 simp only [h.mult r,h.k r,h.cells r (kk:=1) (by omega) (by omega),h.cells r (kk:=2) (by omega) (by omega)]
theorem Alike.bV {L M:List StampP} {s:Int→Int} (h:Alike L M s) (n:Nat):(G1 M n).map RowP.less=(G1 L n).map RowP.less:=by
 unfold G1
 rw [h.bE n]
 split
 ·unfold H8
  rw [List.map_map,List.map_map]
  exact List.map_congr_left fun r _=>h.row r
 ·rfl
theorem Xc {f:Bf} {i k:Nat} (h:Swap f.devs i k) {mode method:Int} {step:Int × Int} {segs:List Int} (hf:Cz f mode method step segs=0) :
  bldE (Cs f i k) mode method step segs=bldE f mode method step segs∧(bldV (Cs f i k) mode method step segs).map RowP.less=(bldV f mode method step segs).map RowP.less:=by
 have ha:=U9 h mode method step segs fun j hj x hx=>by
  obtain ⟨h1,h2,h3⟩:=L5 hf
  rcases (Kk h1 hj h2 h3 x hx).2 with e | e | e | e
  ·exact .inl e.1
  ·exact .inr (.inl e.1)
  ·exact .inr (.inr (.inl e.1))
  ·exact .inr (.inr (.inr e.1))
 have hg:=Sa h hf
 unfold bldE bldV
 rw [hf,hg,To h]
 simp only [ne_eq,not_true_eq_false,if_false]
 exact ⟨ha.bE _,ha.bV _⟩
end
section
open Go.RowKit Go.Maps
def Ki (cs:Array Value) (o:Nat):List Value→Array Value
 | []=>cs
 | v::vs=>Ki (cs.setIfInBounds o v) (o+1) vs
def putAll (w:World) (b o:Nat):List Value→World
 | []=>w
 | v::vs=>putAll (w.setCell ⟨b,o,none⟩ v) b (o+1) vs
theorem Blk.putAll {b:Nat}:∀ {vs:List Value} {w:World} {cs:Array Value} {o:Nat},Blk w b cs→Blk (putAll w b o vs) b (Ki cs o vs)
 | [],_,_,_,h=>h
 | v::vs,_,_,o,h=>(h.set o v).putAll (vs:=vs)
theorem Ht {b:Nat}:∀ {vs:List Value} {w:World} {o:Nat},w.grownBy (putAll w b o vs) (some b)
 | [],_,_=>Al _ _
 | v::vs,w,o=>Ae (Au w b o v) (Ht (vs:=vs))
theorem Ho:∀ (vs:List Value) (cs:Array Value) (o:Nat),(Ki cs o vs).size=cs.size
 | [],_,_=>rfl
 | v::vs,cs,o=>by rw [Ki,Ho vs];simp
theorem Kj:∀ (vs:List Value) (cs:Array Value) (o p:Nat),p<cs.size→(Ki cs o vs)[p]? = if o≤p∧p<o+vs.length then vs[p-o]? else cs[p]?
 | [],cs,o,p,hp=>by rw [Ki,if_neg (by simp)]
 | v::vs,cs,o,p,hp=>by
  rw [Ki,Kj vs _ _ _ (by simpa using hp)]
  by_cases h1:o+1≤p∧p<o+1+vs.length
  ·rw [if_pos h1,if_pos (by simp;omega),show p-o=p-(o+1)+1 by omega];simp
  ·rw [if_neg h1]
   by_cases h2:p=o
   ·subst h2
    rw [if_pos (by simp)]
    simp [hp]
   ·rw [if_neg (by simp;omega),Array.getElem?_setIfInBounds_ne (fun e=>h2 e.symm)]
theorem Row.apart {w w':World} {A:Option Addr} {n c r:Nat} {cs:List Value} (h:Row w (.slice A n c) cs) (hg:w.grownBy w' (some r)) (hne:(Value.slice A n c).ownBlock≠some r):Row w' (.slice A n c) cs:=by
 obtain ⟨A0,c0,he,h1,h2,h3⟩:=h
 injection he with e1 e2 e3
 subst e1 e3
 refine ⟨A,c,by rw [e2],h1,h2,?_⟩
 rcases h3 with h3 | ⟨b,o,rfl,hc⟩
 ·exact .inl h3
 ·refine .inr ⟨b,o,rfl,fun i hi=>?_⟩
  have h4:=hc i hi
  rw [List.getElem?_eq_getElem hi] at h4 ⊢
  exact Aj hg h4 (fun e=>hne (by rw [←e];rfl))
theorem Blk.room {w:World} {b:Nat} {cs:Array Value} (h:Blk w b cs) {o:Nat} (ho:o<cs.size):∃ u,w.cell? ⟨b,o,none⟩=some u :=
 ⟨cs[o],(h.cell o).trans (Array.getElem?_eq_getElem ho)⟩
theorem Blk.room13 {w:World} {b:Nat} {cs:Array Value} (h:Blk w b cs) {o:Nat} (ho:o+13≤cs.size):∃ x0 x1 x2 x3 x4 x5 x6 x7 x8 x9 x10 x11 x12,w.cell? ⟨b,o,none⟩=some x0∧w.cell? ⟨b,o+1,none⟩=some x1∧w.cell? ⟨b,o+2,none⟩=some x2∧w.cell? ⟨b,o+3,none⟩=some x3∧w.cell? ⟨b,o+4,none⟩=some x4∧w.cell? ⟨b,o+5,none⟩=some x5∧w.cell? ⟨b,o+6,none⟩=some x6∧w.cell? ⟨b,o+7,none⟩=some x7∧w.cell? ⟨b,o+8,none⟩=some x8∧w.cell? ⟨b,o+9,none⟩=some x9∧w.cell? ⟨b,o+10,none⟩=some x10∧w.cell? ⟨b,o+11,none⟩=some x11∧w.cell? ⟨b,o+12,none⟩=some x12:=by
 obtain ⟨x0,d0⟩:=h.room (o:=o) (by omega)
 obtain ⟨x1,d1⟩:=h.room (o:=o+1) (by omega)
 obtain ⟨x2,d2⟩:=h.room (o:=o+2) (by omega)
 obtain ⟨x3,d3⟩:=h.room (o:=o+3) (by omega)
 obtain ⟨x4,d4⟩:=h.room (o:=o+4) (by omega)
 obtain ⟨x5,d5⟩:=h.room (o:=o+5) (by omega)
 obtain ⟨x6,d6⟩:=h.room (o:=o+6) (by omega)
 obtain ⟨x7,d7⟩:=h.room (o:=o+7) (by omega)
 obtain ⟨x8,d8⟩:=h.room (o:=o+8) (by omega)
 obtain ⟨x9,d9⟩:=h.room (o:=o+9) (by omega)
 obtain ⟨x10,d10⟩:=h.room (o:=o+10) (by omega)
 obtain ⟨x11,d11⟩:=h.room (o:=o+11) (by omega)
 obtain ⟨x12,d12⟩:=h.room (o:=o+12) (by omega)
 exact ⟨x0,x1,x2,x3,x4,x5,x6,x7,x8,x9,x10,x11,x12,d0,d1,d2,d3,d4,d5,d6,d7,d8,d9,d10,d11,d12⟩
theorem Soft.more {w w':World} {b:Nat} {cur:Array Value} (h:Soft w b) (hg:w.grownBy w' none) (hB:Blk w b cur):Soft w' b:=by
 have hB':=hB.more hg
 obtain ⟨h1,h2⟩:=h
 exact ⟨fun o n=>by rw [hB'.cell,←hB.cell];exact h1 o n,fun n=>by rw [hB'.cell,←hB.cell];exact h2 n⟩
theorem DevsW.block {w:World} {base:Nat} {e:TypeId} {v:Value} {L:List DevP} (h:DevsW w base e v L) (hp:0<L.length) :
  ∃ b c cur,v=.slice (some ⟨b,0,none⟩) L.length c∧base≤b∧L.length≤c∧c≤9223372036854775807∧Blk w b cur∧L.length*13≤cur.size∧Soft w b∧∀ i,i<L.length→∃ cs,DevW w cs (L.getD i dev0)∧cs.length=13∧∀ j,j<13→cur[i*13+j]? = cs[j]?:=by
 have hsoft:=h.soft
 obtain ⟨n,xs,h,hi⟩:=h
 have hcnt:=h.count hi (by omega)
 subst hcnt
 rcases h.1.2 with ⟨rfl,h0⟩ | ⟨g,cap,cur,rfl,h1,h2,h3,h4,h5,h6⟩
 ·omega
 ·refine ⟨g,cap,cur,rfl,h1,h3,by simp only [maxLen] at h4;omega,⟨e,h2⟩,by rw [h5];exact Nat.mul_le_mul_right _ h3,hsoft g rfl hp,fun i hil=>?_⟩
  obtain ⟨cs,q1,q2,q3⟩:=hi.at i hil
  refine ⟨cs,by rw [List.getD_eq_getElem?_getD,List.getElem?_eq_getElem hil];exact q1,q2,fun j hj=>?_⟩
  rw [←q3 j hj,←h6,List.getElem?_take,if_pos (by
   have:(i+1)*13≤L.length*13:=Nat.mul_le_mul_right _ hil
   omega)]
  simp
theorem A04 {w:World} {b c:Nat} {cur:Array Value} {L:List DevP} (hB:Blk w b cur) (hs:Soft w b) (hc1:L.length≤c) (hc2:c≤9223372036854775807) (hsz:L.length*13≤cur.size)
  (hat:∀ i,i<L.length→∃ cs,DevW w cs (L.getD i dev0)∧cs.length=13∧∀ j,j<13→cur[i*13+j]? = cs[j]?) {i k:Nat} (h:Swap L i k) {csi csk:List Value} (hi1:csi.length=13) (hk1:csk.length=13)
  (hi:∀ j,j<13→cur[i*13+j]? = csi[j]?) (hk:∀ j,j<13→cur[k*13+j]? = csk[j]?) :
  DevRow (putAll (putAll w b (i*13) csk) b (k*13) csi) (.slice (some ⟨b,0,none⟩) L.length c) (Ec L i k)∧w.grownBy (putAll (putAll w b (i*13) csk) b (k*13) csi) (some b):=by
 have hg:w.grownBy (putAll (putAll w b (i*13) csk) b (k*13) csi) (some b):=Ae Ht Ht
 have hst:=StayR.row hg hs
 have hB2:=(hB.putAll (o:=i*13) (vs:=csk)).putAll (o:=k*13) (vs:=csi)
 refine ⟨⟨_,c,by rw [Bx],by rw [Bx];exact hc1,hc2,fun _=>⟨b,0,rfl,fun j hj=>?_⟩⟩,hg⟩
 rw [Bx] at hj
 have hlt:=Ok h.hi h.hk hj
 obtain ⟨cs,q1,q2,q3⟩:=hat _ hlt
 refine ⟨cs,by rw [Hb h];exact (q1.step hst).v,fun t ht=>?_⟩
 have hjs:j*13+t<cur.size:=by
  have:(j+1)*13≤L.length*13:=Nat.mul_le_mul_right _ hj
  omega
 rw [hB2.cell,Nat.zero_add,Kj _ _ _ _ (by rw [Ho];exact hjs),Kj _ _ _ _ hjs,hi1,hk1]
 by_cases h1:j=k
 ·subst h1
  rw [if_pos (by omega),show j*13+t-j*13=t by omega,←hi t ht]
  have:sw i j j=i:=by unfold sw;by_cases e:j=i<;>simp [e]
  rw [←q3 t ht,this]
 ·rw [if_neg (by omega)]
  by_cases h2:j=i
  ·subst h2
   rw [if_pos (by omega),show j*13+t-j*13=t by omega,←hk t ht]
   have:sw j k j=k:=by unfold sw;simp
   rw [←q3 t ht,this]
  ·rw [if_neg (by omega),←q3 t ht]
   have:sw i k j=j:=by unfold sw;simp [h1,h2]
   rw [this]
/-! ### rows -/
def RowsF (w:World) (b n:Nat) (F:Nat→RowP):Prop :=
 ∃ cs:Array Value,Blk w b cs∧(∀ u∈cs.toList,∀ m,u≠.int .u32 m)∧(0<n→∃ x,cs[0]? = some (.bool x))∧n*7≤cs.size∧∀ i,i<n→∃ c7,RowW w c7 (F i)∧c7.length=7∧∀ j,j<7→cs[i*7+j]? = c7[j]?
theorem SysRowW.rows {w:World} {lo:Nat} {v:Value} {L:List RowP} (h:SysRowW w lo v L) (hp:0<L.length) :
  ∃ b c,v=.slice (some ⟨b,0,none⟩) L.length c∧lo≤b∧L.length≤c∧c≤9223372036854775807∧RowsF w b L.length (fun i=>L.getD i row0):=by
 obtain ⟨base,e,n,xs,hlo,h,hi⟩:=h
 have hcnt:=h.count hi (by omega)
 subst hcnt
 have hplain:=h.2
 rcases h.1.2 with ⟨rfl,h0⟩ | ⟨g,cap,cur,rfl,h1,h2,h3,h4,h5,h6⟩
 ·omega
 ·have hat:∀ i,i<L.length→∃ cs,RowW w cs (L.getD i row0)∧cs.length=7∧∀ j,j<7→cur[i*7+j]? = cs[j]?:=fun i hil=>by
   obtain ⟨cs,q1,q2,q3⟩:=hi.at i hil
   refine ⟨cs,by rw [List.getD_eq_getElem?_getD,List.getElem?_eq_getElem hil];exact q1,q2,fun j hj=>?_⟩
   rw [←q3 j hj,←h6,List.getElem?_take,if_pos (by
    have:(i+1)*7≤L.length*7:=Nat.mul_le_mul_right _ hil
    omega)]
   simp
  refine ⟨g,cap,rfl,Nat.le_trans hlo h1,h3,by simp only [maxLen] at h4;omega,cur,⟨e,h2⟩,Gb h2 (hplain g rfl),fun _=>?_,by rw [h5];exact Nat.mul_le_mul_right _ h3,hat⟩
  obtain ⟨cs,⟨vm,va,vh,vs,vk,rfl,_⟩,_,q⟩:=hat 0 hp
  exact ⟨_,by have:=q 0 (by omega);rw [Nat.zero_mul] at this;exact this⟩
theorem RowsF.soft {w:World} {b n:Nat} {F:Nat→RowP} (h:RowsF w b n F) (hp:0<n):Soft w b:=by
 obtain ⟨cs,h1,h2,h3,_⟩:=h
 obtain ⟨x,hx⟩:=h3 hp
 exact h1.soft ⟨h2,fun n=>by rw [hx];simp⟩
theorem RowsF.step {w w':World} {b n:Nat} {F:Nat→RowP} {row:Option Nat} (h:RowsF w b n F) (hg:w.grownBy w' row) (hne:row≠some b) (hs:StayR w w'):RowsF w' b n F:=by
 obtain ⟨cs,h1,h2,h3,h4,h5⟩:=h
 refine ⟨cs,h1.row hg hne,h2,h3,h4,fun i hi=>?_⟩
 obtain ⟨c7,q1,q2,q3⟩:=h5 i hi
 exact ⟨c7,q1.step hs,q2,q3⟩
theorem CellRow.nilS (w:World):Stab (fun w'=>CellRow w' (.slice none 0 0) []) w:=fun w' _=>⟨none,0,rfl,Nat.le_refl _,by omega,fun h=>by simp at h⟩
theorem RowsF.put {w:World} {b n k:Nat} {F:Nat→RowP} (h:RowsF w b n F) (hk:k<n):RowsF (w.setCell ⟨b,k*7+4,none⟩ (.slice none 0 0)) b n (fun i=>if i=k then (F i).less else F i):=by
 have hs:=StayR.row (Au w b (k*7+4) (.slice none 0 0)) (h.soft (by omega))
 obtain ⟨cs,h1,h2,h3,h4,h5⟩:=h
 refine ⟨cs.setIfInBounds (k*7+4) (.slice none 0 0),h1.set _ _,?_,fun hp=>?_,by simpa using h4,fun i hi=>?_⟩
 ·intro u hu m
  rw [Array.toList_setIfInBounds] at hu
  rcases List.mem_or_eq_of_mem_set hu with hu | rfl
  ·exact h2 u hu m
  ·simp
 ·obtain ⟨x,hx⟩:=h3 hp
  exact ⟨x,by rw [Array.getElem?_setIfInBounds_ne (by omega)];exact hx⟩
 ·obtain ⟨c7,q1,q2,q3⟩:=h5 i hi
  by_cases hik:i=k
  ·subst hik
   obtain ⟨vm,va,vh,vs,vk,rfl,r1,r2,r3,r4,r5⟩:=q1.step hs
   refine ⟨[.bool (F i).mneg,vm,va,vh,.slice none 0 0,.bool (F i).kneg,vk],?_,rfl,fun j hj=>?_⟩
   ·show RowW _ _ (if i=i then (F i).less else F i)
    rw [if_pos rfl]
    exact ⟨vm,va,vh,_,vk,rfl,r1,r2,r3,CellRow.nilS _,r5⟩
   ·by_cases hj4:j=4
    ·subst hj4
     rw [Array.getElem?_setIfInBounds,if_pos rfl,if_pos (by
      have:(i+1)*7≤n*7:=Nat.mul_le_mul_right _ hi
      omega)]
     rfl
    ·rw [Array.getElem?_setIfInBounds_ne (by omega),q3 j hj]
     match j,hj,hj4 with
     | 0,_,_=>rfl
     | 1,_,_=>rfl
     | 2,_,_=>rfl
     | 3,_,_=>rfl
     | 5,_,_=>rfl
     | 6,_,_=>rfl
  ·show ∃ c7,RowW _ c7 (if i=k then (F i).less else F i)∧c7.length=7∧∀ j,j<7→(cs.setIfInBounds (k*7+4) (Value.slice none 0 0))[i*7+j]? = c7[j]?
   rw [if_neg hik]
   refine ⟨c7,q1.step hs,q2,fun j hj=>?_⟩
   rw [Array.getElem?_setIfInBounds_ne (by omega)]
   exact q3 j hj
theorem RowsF.sys {w:World} {b n c:Nat} {F:Nat→RowP} (h:RowsF w b n F) (h1:n≤c) (h2:c≤9223372036854775807):SysRow w (.slice (some ⟨b,0,none⟩) n c) ((List.range n).map F):=by
 obtain ⟨cs,q1,_,_,_,q5⟩:=h
 refine ⟨_,c,by simp,by simpa using h1,h2,fun hp=>⟨b,0,rfl,fun i hi=>?_⟩⟩
 have hi':i<n:=by simpa using hi
 obtain ⟨c7,r1,r2,r3⟩:=q5 i hi'
 refine ⟨c7,?_,fun j hj=>?_⟩
 ·have:((List.range n).map F).getD i row0=F i:=by simp [List.getD,hi']
  rw [this];exact r1.v
 ·rw [q1.cell,Nat.zero_add];exact r3 j hj
theorem RowsF.ext {w:World} {b n:Nat} {F G:Nat→RowP} (h:RowsF w b n F) (hFG:∀ i,i<n→F i=G i):RowsF w b n G:=by
 obtain ⟨cs,q1,q2,q3,q4,q5⟩:=h
 refine ⟨cs,q1,q2,q3,q4,fun i hi=>?_⟩
 rw [←hFG i hi];exact q5 i hi
theorem Ze (L:List RowP):(List.range L.length).map (fun i=>(L.getD i row0).less)=L.map RowP.less:=by
 refine List.ext_getElem (by simp) fun i h1 h2=>?_
 have hi:i<L.length:=by simpa using h1
 simp [List.getD,hi]
def strk (V:List RowP) (n i:Nat):RowP:=if i<n then (V.getD i row0).less else V.getD i row0
theorem Tk (V:List RowP) (n i:Nat):(if i=n then (strk V n i).less else strk V n i)=strk V (n+1) i:=by
 unfold strk
 by_cases h:i=n
 ·subst h;simp
 ·rw [if_neg h]
  by_cases h2:i<n
  ·rw [if_pos h2,if_pos (by omega)]
  ·rw [if_neg h2,if_neg (by omega)]
theorem Tj (V:List RowP) (n:Nat) (h:n=V.length):(List.range n).map (strk V n)=V.map RowP.less:=by
 subst h
 rw [←Ze]
 refine List.map_congr_left fun i hi=>?_
 unfold strk
 rw [if_pos (List.mem_range.1 hi)]
theorem RowsF.lt {w:World} {b n:Nat} {F:Nat→RowP} (h:RowsF w b n F):b<w.heap.size:=by
 obtain ⟨cs,h1,_⟩:=h
 exact h1.lt
end
section
open Go.RowKit Go.Maps
open Rat
set_option maxRecDepth 100000 in
theorem F6 (w:World) (N:Nat) (h2:N≤4611686018427387904) :
  Calls Tryz.prog 171 #[.int .i64 (N:Int)] w fun e w'=>∃ nv,e=.returned nv∧NZ w' nv (N:Int)∧w.grownBy w' none:=by
 have gw:=Ae (Af w (.cells #[.bool false,.slice none 0 0] 122) none) (Af _ (.cells #[.bool false,.slice none 0 0] 122) none)
 have hB1:=(Blk.new w #[.bool false,.slice none 0 0] 122).more (Af _ (.cells #[.bool false,.slice none 0 0] 122) none)
 have hB2:=Blk.new (w.alloc (.cells #[.bool false,.slice none 0 0] 122)) #[.bool false,.slice none 0 0] 122
 rw [World.size_alloc] at hB2
 have HGW:=Ac gw
 have HB1:=Ac hB1
 have HB2:=Ac hB2
 clear gw hB1 hB2
 have t0:¬ (N:Int)<0:=by omega
 go_enter Tryz.func171,Tryz.ntmps171
 go_wp2_with fail
 generalize (w.alloc (.cells #[.bool false,.slice none 0 0] 122)).alloc (.cells #[.bool false,.slice none 0 0] 122)=wa at *
 generalize hs:w.heap.size=s at *
 have HS:=Ac hs
 clear hs
 have HSG:Hid (decide ((N:Int)<0)=false):=Ac (decide_eq_false (by omega))
 have HD16:Hid (d16 (N:Int)=dig 65536 N):=Ac rfl
 go_loopw [0] (fun mv wr=>∃ m:Nat,mv=.int .i64 m∧Hid (m≤N∧∃ (k:Nat) (ds:List Nat) (Ab:Option Addr) (cb:Nat),wa.grownBy wr (some (s+1))∧Hid (Blk wr (s+1) #[.bool false,.slice Ab k cb])∧Hid (OwnQ wr wa.heap.size 3 1 (.slice Ab k cb) k (i64s ds))∧Hid (dig 65536 N=ds++dig 65536 m))) (fun mv _=>(intOf mv).toNat)
 case atStart=>exact ⟨N,rfl,Ac ⟨Nat.le_refl _,0,[],none,0,Al _ _,HB2,Ac (OwnQ.nil _ _ _ _),Ac rfl⟩⟩
 case round =>
  obtain ⟨m,rfl,hrr⟩:=hrel
  obtain ⟨hmN,k,ds,Ab,cb,hg,hblk,hown,hdig⟩:=hrr.out
  clear hrr
  obtain ⟨d0,d1,f0,f1⟩:=hblk.out.two
  have hlt2:=HB2.out.lt
  have hne:(Value.slice Ab k cb).ownBlock≠some (s+1):=fun e=>by have:=hown.out.from _ e;omega
  have HNE:=Ac hne
  have hkd:ds.length=k:=by have:=hown.out.1.1;simpa [i64s] using this
  have HKD:=Ac hkd
  by_cases hm:0<m
  ·have hk4:k≤4:=by
    have a:=(Bz 65536 (by omega) N 4).2 (by omega)
    rw [hdig.out,List.length_append] at a
    omega
   have r1:(m:Int).tmod 65536=(m:Int) % 65536:=Int.tmod_eq_emod_of_nonneg (by omega)
   have r2:(m:Int).tdiv 65536=(m:Int)/65536:=Int.tdiv_eq_ediv_of_nonneg (by omega)
   have r3:IntKind.i64.wrap ((m:Int) % 65536)=(m:Int) % 65536:=IntWalk.i64_in _ (by omega)
   have r4:IntKind.i64.wrap ((m:Int)/65536)=(m:Int)/65536:=IntWalk.i64_in _ (by omega)
   have hs1:=hg.size
   have HM:=Ac hm
   have HG:=Ac hg
   have HMN:=Ac hmN
   clear hne hkd hg hmN
   go_wp2_with (first
    | (at_builtin;refine Cu wa.heap.size rfl (.tmp 12) (.tmp 15) 30 3 (.int .i64 0) 1 8 rfl Tryz.underlying30 Cm rfl (by omega) (by omega) (.slice Ab k cb) k (i64s ds) #[.int .i64 ((m:Int) % 65536)] (by rfl) hown.out (by rfl) (by rfl) (by simp [Value.oneCell']) (by omega) (by omega) (E9 _) E8 ?_;intro g cap w3 hown3 hgrow;obtain ⟨d0,d1,f0,f1⟩:=((hblk.out.more (Af _ _ _)).row hgrow HNE.out).two;have HX:=Ac ((hblk.out.more (Af _ _ _)).row hgrow HNE.out);have H3:=Ac (And.intro hown3 hgrow);clear hown3 hgrow)
    | fail)
   have hm:=HM.out
   have hmn:=HMN.out
   have hgr:=Ae (Kb (Ae HG.out (Af _ _ _)) (hown.out.more (Af _ _ _)) H3.out.2) (Au w3 (s+1) 1 (.slice (some ⟨g,0,none⟩) (k+1) cap))
   have hbl:=Ac (show Blk _ (s+1) #[.bool false,.slice (some ⟨g,0,none⟩) (k+1) cap] from HX.out.set 1 (.slice (some ⟨g,0,none⟩) (k+1) cap))
   have how:Hid (OwnQ (w3.setCell ⟨s+1,1,none⟩ (.slice (some ⟨g,0,none⟩) (k+1) cap)) wa.heap.size 3 1 (.slice (some ⟨g,0,none⟩) (k+1) cap) (k+1) (i64s (ds++[m % 65536]))):=Ac (by
    have h3:=H3.out.1
    have hgs:=h3.from g rfl
    have hlt2:=HB2.out.lt
    have h4:=h3.other (Au w3 (s+1) 1 (.slice (some ⟨g,0,none⟩) (k+1) cap)) (by simp [Value.ownBlock];omega)
    unfold i64s at *
    rw [List.map_append]
    simpa using h4)
   have hdg:Hid (dig 65536 N=(ds++[m % 65536])++dig 65536 (m/65536)):=Ac (by rw [hdig.out,G8 65536 m (by omega) (by omega),List.append_assoc];rfl)
   have hle:m/65536≤N:=by omega
   exact ⟨⟨m/65536,by first | rfl | go_num | omega,by first | exact Ac ⟨hle,k+1,_,_,_,hgr,hbl,how,hdg⟩ | exact Ac ⟨hle,hgr,k+1,_,_,_,hbl,how,hdg⟩⟩,by simp [intOf];omega⟩
  ·obtain rfl:m=0:=by omega
   have hdn:dig 65536 N=ds:=by rw [hdig.out,Dw,List.append_nil]
   have hd:D16 wr (.slice Ab k cb) ds:=hown.out.d16 HKD.out.symm (by rw [←hdn];exact Ev 65536 (by omega) N)
   have HD:=Ac hd
   have HDN:=Ac hdn
   have hlt1:=HB1.out.lt
   obtain ⟨x0,x1,y0,y1⟩:=(HB1.out.other hg (by omega)).two
   have hfar:(Value.slice Ab k cb).ownBlock≠some s:=fun e=>by have:=hown.out.from _ e;omega
   have HFAR:=Ac hfar
   have HG:=Ac (Aw HGW.out hg (by have:=HS.out;omega))
   clear hdn hd hfar hne hkd hg hdig hown
   go_wp2
   try simp only [Exit.inBlock,Exit.then]
   have hg6:wr.grownBy ((wr.setCell ⟨s,0,none⟩ (.bool false)).setCell ⟨s,1,none⟩ (.slice Ab k cb)) (some s):=Ae (Au _ _ _ _) (Au _ _ _ _)
   refine bodyPost_ret (v:=.agg #[.bool false,.slice Ab k cb]) (by simp [results,Tryz.results171,go_sem, *]) rfl ⟨_,rfl,⟨.slice Ab k cb,?_,?_⟩,Aw HG.out hg6 (by have:=HS.out;omega)⟩
   ·rw [HSG.out]
   ·have:=HD.out.apart hg6 HFAR.out
    rw [←HDN.out] at this
    rw [HD16.out];exact this
theorem D16.gb {w w':World} {v:Value} {ds:List Nat} (h:D16 w v ds) (hg:w.grownBy w' none):D16 w' v ds:=h.more hg
theorem Kp (w:World) (nv:Value) (z:Int) (hx:NZ w nv z) :
  Calls Tryz.prog 139 #[nv] w fun e w'=>∃ v,e=.returned v∧NZ w' v (-z)∧w.grownBy w' none:=by
 obtain ⟨v,rfl,hd⟩:=hx
 obtain ⟨A,c,rfl,hl⟩:=hd.ctor
 have g1:=Af w (.cells #[.bool (decide (z<0)),.slice A (d16 z).length c] 122) none
 have g2:=Af (w.alloc (.cells #[.bool (decide (z<0)),.slice A (d16 z).length c] 122)) (.cells #[.bool false,.slice none 0 0] 122) none
 have hB:=(Blk.new w #[.bool (decide (z<0)),.slice A (d16 z).length c] 122).more g2
 have hB2:=Blk.new (w.alloc (.cells #[.bool (decide (z<0)),.slice A (d16 z).length c] 122)) #[.bool false,.slice none 0 0] 122
 rw [World.size_alloc] at hB2
 obtain ⟨b0,b1,_⟩:=hB.two
 obtain ⟨y0,y1,f0,f1⟩:=hB2.two
 have h0:(d16 z).length=0↔z=0:=by rw [List.length_eq_zero_iff];exact L0
 have HD:=Ac hd
 have HGW:=Ac (Ae g1 g2)
 have HNG:Hid (d16 (-z)=d16 z):=Ac (by unfold d16;rw [Int.natAbs_neg])
 by_cases hz:z=0
 ·subst hz
  have HL:Hid ((d16 0).length=0):=Ac (h0.2 rfl)
  have t1:(((d16 0).length:Int)==0)=true:=by rw [HL.out];rfl
  clear h0 hd hB hB2 g1 g2
  go_enter Tryz.func139,Tryz.ntmps139
  go_wp2_with fail
  try simp only [Exit.inBlock,Exit.then]
  refine bodyPost_ret (v:=.agg #[.bool false,.slice none 0 0]) (by simp [results,Tryz.results139,go_sem, *]) rfl ⟨_,rfl,?_,HGW.out⟩
  rw [Int.neg_zero]
  exact ⟨_,rfl,D16.nil _⟩
 ·have t1:(((d16 z).length:Int)==0)=false:=by rw [beq_eq_false_iff_ne];omega
  have HSN:Hid (decide (-z<0) = !decide (z<0)):=Ac (by
   by_cases h:z<0
   ·rw [decide_eq_true h,decide_eq_false (by omega)];rfl
   ·rw [decide_eq_false h,decide_eq_true (by omega)];rfl)
  clear h0 hd hB hB2 g1 g2 hz
  generalize (d16 z).length=n at *
  generalize decide (z<0)=neg at *
  have g2:=Af (w.alloc (.cells #[.bool neg,.slice A n c] 122)) (.cells #[.bool (!neg),.slice A n c] 122) none
  have hB2:=Blk.new (w.alloc (.cells #[.bool neg,.slice A n c] 122)) #[.bool (!neg),.slice A n c] 122
  rw [World.size_alloc] at hB2
  have HG2:=Ac (Ae (Af w (.cells #[.bool neg,.slice A n c] 122) none) g2)
  have HB2:=Ac hB2
  clear g2 hB2
  go_enter Tryz.func139,Tryz.ntmps139
  go_wp2_with fail
  clear b0 b1 y0 y1 f0 f1
  obtain ⟨y0,y1,_⟩:=HB2.out.two
  try simp only [Exit.inBlock,Exit.then]
  refine bodyPost_ret (v:=.agg #[.bool (!neg),.slice A n c]) (by simp [results,Tryz.results139,go_sem, *]) rfl ⟨_,rfl,⟨_,by rw [HSN.out],?_⟩,HG2.out⟩
  rw [HNG.out]
  exact HD.out.more HG2.out
theorem Tw (w:World) (nv:Value) (z:Int) (hx:NZ w nv z) :
  Calls Tryz.prog 197 #[nv] w fun e w'=>∃ v,e=.returned v∧NZ w' v (z.natAbs:Int)∧w.grownBy w' none:=by
 obtain ⟨v,rfl,hd⟩:=hx
 obtain ⟨A,c,rfl,hl⟩:=hd.ctor
 have HD:=Ac hd
 have HNG:Hid (d16 (z.natAbs:Int)=d16 z):=Ac (by unfold d16;rw [Int.natAbs_natCast])
 have HSN:Hid (decide ((z.natAbs:Int)<0)=false):=Ac (decide_eq_false (by omega))
 clear hd hl
 generalize (d16 z).length=n at *
 generalize decide (z<0)=neg at *
 have hB:=(Blk.new w #[.bool neg,.slice A n c] 122).more (Af (w.alloc (.cells #[.bool neg,.slice A n c] 122)) (.cells #[.bool false,.slice none 0 0] 122) none)
 obtain ⟨b0,b1,_⟩:=hB.two
 have hB0:=Blk.new (w.alloc (.cells #[.bool neg,.slice A n c] 122)) #[.bool false,.slice none 0 0] 122
 rw [World.size_alloc] at hB0
 obtain ⟨y0,y1,f0,f1⟩:=hB0.two
 have g2:=Af (w.alloc (.cells #[.bool neg,.slice A n c] 122)) (.cells #[.bool false,.slice A n c] 122) none
 have hB2:=Blk.new (w.alloc (.cells #[.bool neg,.slice A n c] 122)) #[.bool false,.slice A n c] 122
 rw [World.size_alloc] at hB2
 have HG2:=Ac (Ae (Af w (.cells #[.bool neg,.slice A n c] 122) none) g2)
 have HB2:=Ac hB2
 clear g2 hB2 hB hB0
 go_enter Tryz.func197,Tryz.ntmps197
 go_wp2_with fail
 clear b0 b1 y0 y1 f0 f1
 obtain ⟨y0,y1,_⟩:=HB2.out.two
 try simp only [Exit.inBlock,Exit.then]
 refine bodyPost_ret (v:=.agg #[.bool false,.slice A n c]) (by simp [results,Tryz.results197,go_sem, *]) rfl ⟨_,rfl,⟨_,by rw [HSN.out],?_⟩,HG2.out⟩
 rw [HNG.out]
 exact HD.out.more HG2.out
set_option maxRecDepth 100000 in
theorem Rk (w:World) (v1 v2:Value) (x y:Int) (hx:NZ w v1 x) (hy:NZ w v2 y) (lx:(d16 x).length≤1099511627776) (ly:(d16 y).length≤1099511627776) :
    Calls Tryz.prog 224 #[v1,v2] w fun e w'=>∃ nv,e=.returned nv∧NZ w' nv (x-y)∧w.grownBy w' none:=by
  obtain ⟨u1,rfl,hx⟩:=hx
  obtain ⟨u2,rfl,hy⟩:=hy
  obtain ⟨A1,c1,rfl,_⟩:=hx.ctor
  obtain ⟨A2,c2,rfl,_⟩:=hy.ctor
  have HX:=Ac (show NZ w (.agg #[.bool (decide (x<0)),.slice A1 (d16 x).length c1]) x from ⟨_,rfl,hx⟩)
  have HY:=Ac (show NZ w (.agg #[.bool (decide (y<0)),.slice A2 (d16 y).length c2]) y from ⟨_,rfl,hy⟩)
  have HLX:=Ac lx
  have HLY:Hid ((d16 (-y)).length≤1099511627776):=Ac (by unfold d16 at *;rw [Int.natAbs_neg];exact ly)
  clear hx hy lx ly
  generalize hn1:(d16 x).length=n1 at *
  have HN1:=Ac hn1
  clear hn1
  generalize (d16 y).length=n2 at *
  generalize decide (x<0)=s1 at *
  generalize decide (y<0)=s2 at *
  have g1:=Af w (.cells #[.bool s1,.slice A1 n1 c1] 122) none
  have g2:=Af (w.alloc (.cells #[.bool s1,.slice A1 n1 c1] 122)) (.cells #[.bool s2,.slice A2 n2 c2] 122) none
  have g3:=Af ((w.alloc (.cells #[.bool s1,.slice A1 n1 c1] 122)).alloc (.cells #[.bool s2,.slice A2 n2 c2] 122)) (.cells #[.bool false,.slice none 0 0] 122) none
  have hB1:=(Blk.new w #[.bool s1,.slice A1 n1 c1] 122).more (Ae g2 g3)
  have hB2:=(Blk.new (w.alloc (.cells #[.bool s1,.slice A1 n1 c1] 122)) #[.bool s2,.slice A2 n2 c2] 122).more g3
  have hB3:=Blk.new ((w.alloc (.cells #[.bool s1,.slice A1 n1 c1] 122)).alloc (.cells #[.bool s2,.slice A2 n2 c2] 122)) #[.bool false,.slice none 0 0] 122
  have hsz:(((w.alloc (.cells #[.bool s1,.slice A1 n1 c1] 122)).alloc (.cells #[.bool s2,.slice A2 n2 c2] 122)).alloc (.cells #[.bool false,.slice none 0 0] 122)).heap.size=w.heap.size+3:=by simp
  rw [World.size_alloc] at hB2 hB3
  rw [World.size_alloc] at hB3
  have HGW:=Ac (Ae g1 (Ae g2 g3))
  have HX:=Ac (HX.out.more HGW.out)
  have HY:=Ac (HY.out.more HGW.out)
  have HB3:=Ac hB3
  have HSZ:=Ac hsz
  obtain ⟨x0,x1,_⟩:=hB1.two
  obtain ⟨y0,y1,_⟩:=hB2.two
  obtain ⟨z0,z1,f0,f1⟩:=hB3.two
  go_enter Tryz.func224,Tryz.ntmps224
  go_wp2_with fail
  generalize ((w.alloc (.cells #[.bool s1,.slice A1 n1 c1] 122)).alloc (.cells #[.bool s2,.slice A2 n2 c2] 122)).alloc (.cells #[.bool false,.slice none 0 0] 122)=wa at *
  generalize hs:w.heap.size=s at *
  have HS:=Ac hs
  have HKK:=Ac (fun W (h:wa.grownBy W none)=>(⟨Aj h x0 (by simp),Aj h x1 (by simp),Aj h y0 (by simp),Aj h y1 (by simp)⟩:W.cell? ⟨s,0,none⟩=some (.bool s1)∧W.cell? ⟨s,1,none⟩=some (.slice A1 n1 c1)∧W.cell? ⟨s+1,0,none⟩=some (.bool s2)∧W.cell? ⟨s+1,1,none⟩=some (.slice A2 n2 c2)))
  clear hB1 hB2 hB3 hs g1 g2 g3 z0 z1 f0 f1
  have ne1:s≠s+1+1:=by omega
  have ne2:s+1≠s+1+1:=by omega
  have ne3:s+1+1≠s:=by omega
  have ne4:s+1+1≠s+1:=by omega
  go_region_held3 (fun W=>W.cell? ⟨s,0,none⟩=some (.bool s1)∧W.cell? ⟨s,1,none⟩=some (.slice A1 n1 c1)∧W.cell? ⟨s+1,0,none⟩=some (.bool s2)∧W.cell? ⟨s+1,1,none⟩=some (.slice A2 n2 c2)) (first | go_keep | exact HKK.out _ (by (focus ((repeat (first | assumption | exact Al _ _ | exact Ai _ _ | exact Af _ _ _ | refine Ae ?_ (Af _ _ _) | refine Ae ?_ (Ai _ _) | refine Ae ?_ (by assumption)));done))))
   (first
   | (go_at_call 139;refine (Kp _ _ _ (HY.out.more (by (focus ((repeat (first | assumption | exact Al _ _ | exact Ai _ _ | exact Af _ _ _ | refine Ae ?_ (Af _ _ _) | refine Ae ?_ (Ai _ _) | refine Ae ?_ (by assumption)));done))))).mono ?_;rintro e w2 ⟨v2,rfl,hv2,hg2⟩)
   | (go_at_call 120;refine (Rl _ _ _ _ _ (HX.out.more (by (focus ((repeat (first | assumption | exact Al _ _ | exact Ai _ _ | exact Af _ _ _ | refine Ae ?_ (Af _ _ _) | refine Ae ?_ (Ai _ _) | refine Ae ?_ (by assumption)));done)))) (hv2.more (by (focus ((repeat (first | assumption | exact Al _ _ | exact Ai _ _ | exact Af _ _ _ | refine Ae ?_ (Af _ _ _) | refine Ae ?_ (Ai _ _) | refine Ae ?_ (by assumption)));done)))) (by rw [HN1.out];exact HLX.out) HLY.out).mono ?_;rintro e w3 ⟨v3,rfl,hv3,hg3⟩;obtain ⟨u3,rfl,hd3⟩:=hv3;obtain ⟨A3,c3,rfl,_⟩:=hd3.ctor;have HB4:=Ac (HB3.out.more (show wa.grownBy w3 none by (focus ((repeat (first | assumption | exact Al _ _ | exact Ai _ _ | exact Af _ _ _ | refine Ae ?_ (Af _ _ _) | refine Ae ?_ (Ai _ _) | refine Ae ?_ (by assumption)));done))));obtain ⟨z0,z1,f0,f1⟩:=HB4.out.two))
  all_goals
    go_wp2_with fail
    try simp only [Exit.inBlock,Exit.then]
    obtain ⟨w4,hw4,hB4,hG4⟩:∃ w4,w4=((w3.setCell ⟨s+1+1,0,none⟩ (.bool (decide (x + -y<0)))).setCell ⟨s+1+1,1,none⟩ (.slice A3 (d16 (x + -y)).length c3))∧Blk w4 (s+1+1) #[.bool (decide (x + -y<0)),.slice A3 (d16 (x + -y)).length c3]∧w3.grownBy w4 (some (s+1+1)):=⟨_,rfl,(HB4.out.set 0 _).set 1 _,Ae (Au _ _ _ _) (Au _ _ _ _)⟩
    rw [←hw4]
    clear z0 z1 f0 f1 hw4
    obtain ⟨z0,z1,_⟩:=hB4.two
    refine bodyPost_ret (v:=.agg #[.bool (decide (x + -y<0)),.slice A3 (d16 (x + -y)).length c3]) (by simp [results,Tryz.results224,go_sem,z0,z1]) rfl ⟨_,rfl,?_,?_⟩
    · rw [Int.sub_eq_add_neg]
      exact ⟨_,rfl,hd3.keep HB4.out (by simp) hG4⟩
    · exact Aw (Ae HGW.out (show wa.grownBy w3 none by (focus ((repeat (first | assumption | exact Al _ _ | exact Ai _ _ | exact Af _ _ _ | refine Ae ?_ (Af _ _ _) | refine Ae ?_ (Ai _ _) | refine Ae ?_ (by assumption)));done)))) hG4 (by have:=HS.out;omega)
set_option maxRecDepth 100000 in
theorem Rj (w:World) (v1 v2:Value) (x y:Int) (hx:NZ w v1 x) (hy:NZ w v2 y) (lx:(d16 x).length≤1099511627776) (ly:(d16 y).length≤1099511627776) :
  Calls Tryz.prog 223 #[v1,v2] w fun e w'=>e=.returned (.int .i64 (if x-y=0 then 0 else if x-y<0 then -1 else 1))∧w.grownBy w' none:=by
 obtain ⟨u1,rfl,hx⟩:=hx
 obtain ⟨u2,rfl,hy⟩:=hy
 obtain ⟨A1,c1,rfl,_⟩:=hx.ctor
 obtain ⟨A2,c2,rfl,_⟩:=hy.ctor
 have g1:=Af w (.cells #[.bool (decide (x<0)),.slice A1 (d16 x).length c1] 122) none
 have g2:=Af (w.alloc (.cells #[.bool (decide (x<0)),.slice A1 (d16 x).length c1] 122)) (.cells #[.bool (decide (y<0)),.slice A2 (d16 y).length c2] 122) none
 have hB1:=(Blk.new w #[.bool (decide (x<0)),.slice A1 (d16 x).length c1] 122).more g2
 have hB2:=Blk.new (w.alloc (.cells #[.bool (decide (x<0)),.slice A1 (d16 x).length c1] 122)) #[.bool (decide (y<0)),.slice A2 (d16 y).length c2] 122
 rw [World.size_alloc] at hB2
 obtain ⟨x0,x1,_⟩:=hB1.two
 obtain ⟨y0,y1,_⟩:=hB2.two
 have HGW:=Ac (Ae g1 g2)
 have HLE:=Ac (Rk ((w.alloc (.cells #[.bool (decide (x<0)),.slice A1 (d16 x).length c1] 122)).alloc (.cells #[.bool (decide (y<0)),.slice A2 (d16 y).length c2] 122)) _ _ x y (show NZ _ (.agg #[.bool (decide (x<0)),.slice A1 (d16 x).length c1]) x from ⟨_,rfl,hx.more HGW.out⟩) (show NZ _ (.agg #[.bool (decide (y<0)),.slice A2 (d16 y).length c2]) y from ⟨_,rfl,hy.more HGW.out⟩) lx ly)
 clear hx hy lx ly g1 g2 hB1 hB2
 generalize (d16 x).length=n1 at *
 generalize (d16 y).length=n2 at *
 generalize decide (x<0)=s1 at *
 generalize decide (y<0)=s2 at *
 generalize x-y=z at *
 obtain ⟨R,hR⟩:∃ R:Int,(if z=0 then (0:Int) else if z<0 then -1 else 1)=R:=⟨_,rfl⟩
 rw [hR]
 have HR:=Ac hR
 clear hR
 go_enter Tryz.func223,Tryz.ntmps223
 go_wp2_with fail
 refine HLE.out.mono ?_
 rintro e w1 ⟨nv,rfl,hz,hg1⟩
 clear x0 x1 y0 y1
 go_wp2_with fail
 have hms:=Mc w1 nv z hz
 rw [HR.out] at hms
 refine hms.mono ?_
 rintro e w2 ⟨rfl,hg2⟩
 clear hms
 go_wp2_with fail
 go_ret
 exact ⟨rfl,Ae HGW.out (Ae hg1 hg2)⟩
end
end Go.Proofs.YtmfmfpmkgmkgiaaGreatDoor
