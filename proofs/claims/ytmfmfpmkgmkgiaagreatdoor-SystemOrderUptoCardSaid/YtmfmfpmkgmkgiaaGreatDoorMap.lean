/- Recs SumE SumF SumG SumH WavB. -/
import Derived.Test.YtmfmfpmkgmkgiaaGreatDoorMal
import Derived.Test.YtmfmfpmkgmkgiaaGreatDoorMao
import Derived.Test.YtmfmfpmkgmkgiaaGreatDoorMam
import Derived.Test.YtmfmfpmkgmkgiaaGreatDoorMan
import Derived.Test.YtmfmfpmkgmkgiaaGreatDoorMag
import Derived.Lib.SlKeysI
import Derived.Deep.Cut
import Derived.Test.YtmfmfpmkgmkgiaaGreatDoorMah
import Derived.Test.YtmfmfpmkgmkgiaaGreatDoorMaf
import Derived.Test.YtmfmfpmkgmkgiaaGreatDoorMae
import Derived.Test.YtmfmfpmkgmkgiaaGreatDoorMad
set_option linter.unusedVariables false
set_option linter.unusedSimpArgs false
set_option maxHeartbeats 40000000
namespace Go.Proofs.YtmfmfpmkgmkgiaaGreatDoor
section
open Go.RowKit Go.Maps
open Rat
def RecR {α:Type} (k:Nat) (R:List Value→α→Prop) (xs:List Value):List α→Prop
 | []=>xs=[]
 | a::L=>∃ cs rest,xs=cs++rest∧cs.length=k∧R cs a∧RecR k R rest L
theorem RecR.nil {α:Type} (k:Nat) (R:List Value→α→Prop):RecR k R [] []:=rfl
theorem RecR.snoc {α:Type} {k:Nat} {R:List Value→α→Prop} {ys:List Value} {a:α} (hl:ys.length=k) (ha:R ys a):∀ {xs:List Value} {L:List α},RecR k R xs L→RecR k R (xs++ys) (L++[a])
 | xs,[],h=>by
  have:xs=[]:=h
  subst this
  exact ⟨ys,[],by simp,hl,ha,rfl⟩
 | xs,t::L,⟨cs,rest,e,h1,h2,h3⟩=>⟨cs,rest++ys,by rw [e,List.append_assoc],h1,h2,h3.snoc hl ha⟩
theorem RecR.imp {α:Type} {k:Nat} {R R':List Value→α→Prop} (hi:∀ cs a,R cs a→R' cs a):∀ {xs:List Value} {L:List α},RecR k R xs L→RecR k R' xs L
 | _,[],h=>h
 | _,_::_,⟨cs,rest,e,h1,h2,h3⟩=>⟨cs,rest,e,h1,hi _ _ h2,h3.imp hi⟩
theorem RecR.length {α:Type} {k:Nat} {R:List Value→α→Prop}:∀ {xs:List Value} {L:List α},RecR k R xs L→xs.length=L.length*k
 | _,[],h=>by have:_=[]:=h;subst this;simp
 | _,_::L,⟨cs,rest,e,h1,h2,h3⟩=>by rw [e,List.length_append,h3.length,h1,List.length_cons,Nat.succ_mul];omega
theorem RecR.at {α:Type} {k:Nat} {R:List Value→α→Prop}:∀ {xs:List Value} {L:List α},RecR k R xs L→∀ i (hi:i<L.length),∃ cs,R cs L[i]∧cs.length=k∧∀ j,j<k→xs[i*k+j]? = cs[j]?
 | _,[],_,i,hi=>by simp at hi
 | _,a::L,⟨cs,rest,e,h1,h2,h3⟩,0,hi=>⟨cs,h2,h1,fun j hj=>by rw [e,Nat.zero_mul,Nat.zero_add,List.getElem?_append_left (by omega)]⟩
 | _,a::L,⟨cs,rest,e,h1,h2,h3⟩,i+1,hi=>by
  obtain ⟨cs',h4,h5,h6⟩:=h3.at i (by simpa using hi)
  refine ⟨cs',h4,h5,fun j hj=>?_⟩
  rw [e,List.getElem?_append_right (by rw [h1,Nat.succ_mul];omega),h1,←h6 j hj]
  congr 1
  rw [Nat.succ_mul];omega
theorem OwnQ.recs {α:Type} {w:World} {base:Nat} {e:TypeId} {k:Nat} {v:Value} {n:Nat} {xs:List Value} {R:List Value→α→Prop} {L:List α} (h:OwnQ w base e k v n xs) (hi:RecR k R xs L) (hn:n=L.length) :
  ∃ A c,v=.slice A L.length c∧L.length≤c∧c≤9223372036854775807∧(0<L.length→∃ b,A=some ⟨b,0,none⟩∧∀ i (hi:i<L.length),∃ cs,R cs L[i]∧cs.length=k∧∀ j,j<k→w.cell? ⟨b,i*k+j,none⟩=cs[j]?):=by
 subst hn
 have hc:∀ {g:Nat},v.ownBlock=some g→∀ j u,xs[j]? = some u→w.cell? ((⟨g,0,none⟩:Addr).add j)=some u:=fun hg=>h.1.cells hg
 rcases h.1.2 with ⟨rfl,hn0⟩ | ⟨g,cap,cur,rfl,_,_,hnc,hcm,_⟩
 ·exact ⟨none,0,by rw [hn0],by rw [hn0];omega,by omega,fun h=>by rw [hn0] at h;omega⟩
 ·refine ⟨some ⟨g,0,none⟩,cap,rfl,hnc,by simp only [maxLen] at hcm;omega,fun _=>⟨g,rfl,fun i hil=>?_⟩⟩
  obtain ⟨cs,h1,h2,h3⟩:=hi.at i hil
  refine ⟨cs,h1,h2,fun j hj=>?_⟩
  have h4:=h3 j hj
  have hcj:cs[j]? = some (cs[j]'(by omega)):=List.getElem?_eq_getElem _
  rw [hcj] at h4 ⊢
  have:=hc (g:=g) rfl _ _ h4
  rwa [Me] at this
theorem Ua {P:Program} {W:World} {ops:Array Oper} {rest:List Oper} {o:Oper} {a:Act} {Q:Exit→Act→World→Prop} (base:Nat) (hgd:o.guard=none) (s x:Operand) (t e:TypeId) (z:Value) (size bytes:Nat)
  (ho:o.op=.call { callee:=.builtin .append,args:=#[s,x],argTypes:=#[t,t] })
  (ht:P.underlying t=some (.slice e)) (hinfo:(P.info? e).map (fun i=>(i.zero,i.size,i.bytes))=some (some z,size,bytes)) (hzs:z.cells.size=size) (hsz:0<size) (hb0:0<bytes)
  (v:Value) (n:Nat) (xs:List Value) (ys:Array Value) (hs:a.eval s=v) (HO:OwnQ W base e size v n xs)
  (hx:a.eval x=.slice (some ⟨W.heap.size,0,none⟩) 1 1) (hl:ys.toList.length=size) (h1:∀ u∈ys.toList,u.oneCell'=true)
  (hbytes:(n+1)*bytes≤140737488355328) (hbase:base≤W.heap.size) (hnd:NoD ys.toList) (hzd:NoD z.cells.toList)
  (h:∀ g cap w1,OwnQ w1 base e size (.slice (some ⟨g,0,none⟩) (n+1) cap) (n+1) (xs++ys.toList)→(W.alloc (.cells ys e)).grownBy w1 v.ownBlock→(v.ownBlock=some g∨g=W.heap.size+1)→wpList P ops Q rest (a.put o.dst (.slice (some ⟨g,0,none⟩) (n+1) cap)) w1) :
  wpList P ops Q (o::rest) a (W.alloc (.cells ys e)):=by
 obtain ⟨g,cap,w1,hr,h2,h3,h4⟩:=Og (P:=P) (w:=W.alloc (.cells ys e)) base t o.type e z size bytes ht hinfo hzs hsz hb0 v n xs (HO.more (Af _ _ _)) W.heap.size ys e (0,0) (Bi _ _) hl h1 hbytes (by rw [World.size_alloc];omega) hnd hzd
 rw [World.size_alloc] at h4
 refine wpList_plain hgd fun K hK=>?_
 unfold Oper.wp execOp
 simp only [ho,resolve,invoke,builtin,Sem.run_bind,Sem.run_pure,Result.andThen_ok,List.map_toArray,List.map_cons,List.map_nil,hs,hx,hr]
 exact hK _ _ (h g cap w1 h2 h3 h4)
/-! ### cells -/
def Mf (p:Int × Int):CellP:=⟨p.1,decide (p.2<0),digs p.2⟩
def CellV (w:World) (cs:List Value) (p:Int × Int):Prop:=I64 p.1∧∃ v,cs=[.int .i64 p.1,.bool (decide (p.2<0)),v]∧Nums w v (digs p.2)
theorem CellV.row {w w':World} {cs:List Value} {p:Int × Int} {row:Option Nat} (h:CellV w cs p) (hg:w.grownBy w' row) (hp:∀ r,row=some r→Dt w r):CellV w' cs p:=by
 obtain ⟨h0,v,h1,h2⟩:=h;exact ⟨h0,v,h1,h2.row hg hp⟩
theorem CellRow.apart {w w':World} {v:Value} {l:List CellP} {row:Option Nat} (h:CellRow w v l) (hg:w.grownBy w' row) (hp:∀ r,row=some r→Dt w r) (hne:∀ r,row=some r→v.ownBlock≠some r):CellRow w' v l:=by
 obtain ⟨A,c,rfl,h1,h2,h4⟩:=h
 refine ⟨A,c,rfl,h1,h2,fun hpos=>?_⟩
 obtain ⟨b,o,rfl,hc⟩:=h4 hpos
 have hb:some b≠row:=by
  intro e
  exact hne b e.symm rfl
 refine ⟨b,o,rfl,fun i hi=>?_⟩
 obtain ⟨u,hI,c0,c1,c2,hn⟩:=hc i hi
 exact ⟨u,hI,Aj hg c0 hb,Aj hg c1 hb,Aj hg c2 hb,hn.row hg hp⟩
end
section
open Go.RowKit Go.Maps Go.Sort Go.Shelf
open Rat
theorem Zz (m:Nat):AnyZI.SortsIn Tryz.prog Tryz.sortedA_ren Fence.wide m :=
  ⟨fun blk off cap ss W hH hblk hsz=>callsIn_wide.2 (AnyM.slices_Sort_int Tryz.sortA blk off cap ss W hH hblk hsz),
   fun p cap W=>callsIn_wide.2 (AnyM.slices_Sort_int_none Tryz.sortA p cap W)⟩
theorem Z8 {H:Type} {P:Program} {k:TypeId} {R:Value→Option (DataW H × List MemPlace)} {w:World} {b n:Nat} {D0:DataW H} (hown:w.ownsMap P k R b n D0) (K:Keyed P k) (hk:P.underlying k=some (.int .i64)) :
  (intKeys D0).Nodup∧∀ x,x∈intKeys D0↔Maps.has D0 (.int .i64 x)=true:=by
 obtain ⟨es,hD,hpw,_⟩:=hown.entries K
 obtain ⟨es',hD',hko⟩:=hown.keysOf
 obtain rfl:es=es':=by rw [hD] at hD';simpa using hD'
 subst hD
 have hkk:∀ p∈es,∃ x,p.1=.int .i64 x:=fun p hp=>by obtain ⟨v,hv⟩:=hko p hp;obtain ⟨x,_,hx,_⟩:=Maps.keyOf_i64 hk hv;exact ⟨x,hx⟩
 constructor
 ·show (es.map fun p=>Go.intOf p.1).Nodup
  refine List.pairwise_map.2 (hpw.imp_of_mem fun {p q} hp' hq' hne e=>hne ?_)
  obtain ⟨a,ha⟩:=hkk p hp'
  obtain ⟨b,hb⟩:=hkk q hq'
  rw [ha,hb] at e ⊢
  exact congrArg _ e
 ·intro x
  rw [has_eq,List.any_eq_true]
  show x∈es.map (fun p=>Go.intOf p.1)↔_
  rw [List.mem_map]
  constructor
  ·rintro ⟨p,hp',rfl⟩
   obtain ⟨a,ha⟩:=hkk p hp'
   exact ⟨p,hp',by rw [ha];simp [Lit.sameKey,Go.intOf]⟩
  ·rintro ⟨p,hp',hs⟩
   obtain ⟨a,ha⟩:=hkk p hp'
   rw [ha] at hs
   exact ⟨p,hp',by rw [ha];simpa [Lit.sameKey,Go.intOf] using hs⟩
theorem Sx {l:List Int} (h:l.Nodup):Fl (l.mergeSort (fun x y=>decide (x≤y))):=by
 have h1:=List.pairwise_mergeSort (le:=fun x y:Int=>decide (x≤y)) (fun a b c h1 h2=>by simp only [decide_eq_true_eq] at *;omega) (fun a b=>by simp only [Bool.or_eq_true,decide_eq_true_eq];omega) l
 have h2:(l.mergeSort (fun x y=>decide (x≤y))).Nodup:=(List.mergeSort_perm l _).nodup_iff.2 h
 unfold Fl
 refine (h1.and h2).imp fun {a b} hab=>?_
 have:=hab.1
 have hne:=hab.2
 simp only [decide_eq_true_eq] at this
 omega
theorem R6 (w:World) (mb N:Nat) (F:Int→Option Nat) (h:MapB w mb N F) (hN:N≤1000000) :
  Calls Tryz.prog 167 #[.func (.func 213) #[] #[.pointer (some ⟨w.heap.size,0,none⟩)]] (w.alloc (.cells #[.map (some mb)] 112)) fun e w'=>∃ v S,e=.returned v∧Fl S∧(∀ c,c∈S↔(F c).isSome=true)∧Row w' v (ints S)∧S.length≤N∧w.grownBy w' none:=by
 obtain ⟨h0,D,hown,h2⟩:=h
 have hsz:=hown.size_le
 refine (callsIn_wide (n:=5)).1 ?_
 have hbl:=hown.lt
 have hseq:SeqGives Fence.wide 2 Tryz.prog 213 #[.pointer (some ⟨w.heap.size,0,none⟩)] encZ (fun ss=>ss.Perm (intKeys D)) (Maps.size D) (w.alloc (.cells #[.map (some mb)] 112)) :=
  AnyZI.keys_gives (ρ:=Tryz.keysA_ren) { Tryz.keysA with } Fence.wide _ trivial rfl (by omega) w.heap.size mb N D _ (by simp) (by simp) (by
   obtain ⟨es,clock,hb,Ft,hs,hD⟩:=hown
   exact ⟨es,clock,(Below.heap_alloc _ _ mb hbl).trans hb,Ft,hs,hD⟩)
 have cS:=AnyZI.sorted_in Tryz.sortedA Fence.wide 5 trivial trivial trivial trivial rfl (by omega) (Zz _) (enters_of Tryz.func212 (by kernel_rfl) rfl) 213 #[.pointer (some ⟨w.heap.size,0,none⟩)] trivial (enters_of Tryz.func213 (by kernel_rfl) rfl) _ _ (by unfold maxLen;omega) (by omega) _ hseq
 change CallsIn _ _ Tryz.prog 167 _ _ _ at cS
 refine cS.mono ?_
 rintro e w' ⟨v,ss,rfl,hS,hrow,hnil,hb⟩
 obtain ⟨hnd,hmem⟩:=Z8 hown lawI Tryz.underlying3
 have hnd2:ss.Nodup:=hS.nodup_iff.2 hnd
 have hms:∀ c,c∈ss↔(F c).isSome=true:=fun c=>by
  rw [hS.mem_iff,hmem]
  by_cases hI:I64 c
  ·rw [(h2 c hI).1]
  ·have hF:F c=none:=by
    cases hF:F c with
    | none=>rfl
    | some b=>exact absurd (h0 c b hF) hI
   have hnot:¬ Maps.has D (.int .i64 c)=true:=fun hh=>hI (Z7 (intKeys_wf hown Tryz.underlying3 c ((hmem c).2 hh)))
   rw [hF]
   constructor
   ·intro hh;exact absurd hh hnot
   ·intro hh;cases hh
 refine ⟨v,ss.mergeSort (fun x y=>decide (x≤y)),rfl,Sx hnd2,fun c=>by rw [List.mem_mergeSort];exact hms c,?_,?_,?_⟩
 ·have:=E5 hrow
  exact this
 ·rw [List.length_mergeSort]
  have h3:ss.length=(intKeys D).length:=hS.length_eq
  have h4:(intKeys D).length=Maps.size D:=by
   obtain ⟨es,hD,_,_⟩:=hown.entries lawI
   rw [hD];simp [intKeys,Maps.size]
  omega
 ·exact Ae (Af w _ none) (Hk hb)
theorem Tu (w:World) (mo:Option Nat):Calls Tryz.prog 168 #[.map mo] w fun e w'=>e=.returned (.func (.func 213) #[] #[.pointer (some ⟨w.heap.size,0,none⟩)])∧w'=w.alloc (.cells #[.map mo] 112) :=
 (callsIn_wide (n:=5)).1 (AnyZI.keys_in Tryz.keysA Fence.wide 5 trivial rfl mo w)
theorem M7 (w:World) :
  Calls Tryz.prog 167 #[.func (.func 213) #[] #[.pointer (some ⟨w.heap.size,0,none⟩)]] (w.alloc (.cells #[.map none] 112)) fun e w'=>e=.returned (.slice none 0 0)∧w.grownBy w' none:=by
 refine (callsIn_wide (n:=5)).1 ?_
 have hseq:SeqGives Fence.wide 2 Tryz.prog 213 #[.pointer (some ⟨w.heap.size,0,none⟩)] encZ (fun ss:List Int=>ss=[]) 0 (w.alloc (.cells #[.map none] 112)) :=
  AnyZI.keys_gives_nil (ρ:=Tryz.keysA_ren) { Tryz.keysA with } Fence.wide _ trivial rfl w.heap.size _ (by simp) (by simp)
 have cS:=AnyZI.sorted_in Tryz.sortedA Fence.wide 5 trivial trivial trivial trivial rfl (by omega) (Zz _) (enters_of Tryz.func212 (by kernel_rfl) rfl) 213 #[.pointer (some ⟨w.heap.size,0,none⟩)] trivial (enters_of Tryz.func213 (by kernel_rfl) rfl) _ 0 (Nat.zero_le _) (by omega) _ hseq
 change CallsIn _ _ Tryz.prog 167 _ _ _ at cS
 refine cS.mono ?_
 rintro e w' ⟨v,ss,rfl,rfl,hrow,hnil,hb⟩
 obtain rfl:v=.slice none 0 0:=hnil.2 rfl
 exact ⟨rfl,Ae (Af w _ none) (Hk hb)⟩
theorem Ud (w:World) (o:Option Nat) (N:Nat) (F:Int→Option Nat) (h:∀ mb,o=some mb→MapB w mb N F) (h0:o=none→∀ c,F c=none) (hN:N≤1000000) :
  Calls Tryz.prog 167 #[.func (.func 213) #[] #[.pointer (some ⟨w.heap.size,0,none⟩)]] (w.alloc (.cells #[.map o] 112)) fun e w'=>∃ v S,e=.returned v∧Fl S∧(∀ c,c∈S↔(F c).isSome=true)∧Row w' v (ints S)∧S.length≤N∧w.grownBy w' none:=by
 cases o with
 | none =>
  refine (M7 w).mono ?_
  rintro e w' ⟨rfl,hg⟩
  exact ⟨_,[],rfl,List.Pairwise.nil,fun c=>by rw [h0 rfl c];simp,Row.nil _,by simp,hg⟩
 | some mb=>exact R6 w mb N F (h mb rfl) hN
end
section
open Go.RowKit Go.Maps
open Rat
theorem Xh {w:World} {A:Option Addr} {n c:Nat} {S:List Int} (h:Row w (.slice A n c) (ints S)) {k:Nat} (hk:k<S.length):∃ b o,A=some ⟨b,o,none⟩∧w.cell? ⟨b,o+k,none⟩=some (.int .i64 (S.getD k 0)):=by
 obtain ⟨A',c',e,h1,h2,h3⟩:=h
 rw [D5] at *
 injection e with e1 e2 e3
 subst e1
 rcases h3 with ⟨h0,_⟩ | ⟨b,o,rfl,hc⟩
 ·have:=congrArg List.length h0;rw [D5] at this;exact absurd (show S.length=0 from this) (by omega)
 ·exact ⟨b,o,rfl,(hc k hk).trans (J5 S k hk)⟩
theorem Yh:(Tryz.prog.info? 55).map (fun i=>(i.zero,i.size,i.bytes))=some (some (.agg #[.int .i64 0,.bool false,.slice none 0 0]),3,40):=by kernel_rfl
theorem Qk:NoD (Value.agg #[.int .i64 0,.bool false,.slice none 0 0]).cells.toList:=by
 intro u hu n
 simp [Value.cells] at hu
 rcases hu with rfl | rfl | rfl<;>simp
theorem Ox (c:Int) (b:Bool) (A:Option Addr) (n k:Nat):NoD (#[Value.int .i64 c,.bool b,.slice A n k]).toList:=by
 intro u hu n
 simp at hu
 rcases hu with rfl | rfl | rfl<;>simp
theorem Om {q:Rat} {m a b:Nat} (hq:LimQ q a) (hm:lim (m:Int)≤b):lim (Fi q m)≤a+b:=by
 unfold Fi
 exact Nat.le_trans (Ea (D7 _ _)) (Nat.le_trans (C9 _ _) (by have:=hq.1;omega))
def Stab (P:World→Prop) (w:World):Prop:=∀ w',StayR w w'→P w'
theorem Stab.here {P:World→Prop} {w:World} (h:Stab P w):P w:=h w (StayR.refl w)
theorem Stab.step {P:World→Prop} {w w':World} (h:Stab P w) (hs:StayR w w'):Stab P w':=fun w'' k=>h w'' (hs.trans k)
theorem Stab.more {P:World→Prop} {w w':World} (h:Stab P w) (hg:w.grownBy w' none):Stab P w':=h.step (StayR.none hg)
theorem OwnQ.cellStab {w:World} {base:Nat} {e:TypeId} {v:Value} {n:Nat} {xs:List Value} {L:List (Int × Int)} (h:OwnQ w base e 3 v n xs) (hi:RecR 3 (CellV w) xs L) (hn:n=L.length):Stab (fun w'=>CellRow w' v (L.map Mf)) w:=by
 intro w' hst
 obtain ⟨A,c,rfl,h1,h2,h3⟩:=h.recs hi hn
 refine ⟨A,c,by simp,by simpa using h1,h2,fun hp=>?_⟩
 have hp':0<L.length:=by simpa using hp
 obtain ⟨b,rfl,h4⟩:=h3 hp'
 obtain ⟨cs0,⟨_,u0,rfl,_⟩,_,hc0⟩:=h4 0 hp'
 have hz:w.cell? ⟨b,0,none⟩=some (.int .i64 L[0].1):=by have:=hc0 0 (by omega);rw [Nat.zero_mul] at this;exact this
 refine ⟨b,0,rfl,fun i hi=>?_⟩
 have hil:i<L.length:=by simpa using hi
 obtain ⟨cs,⟨h0,u,rfl,hn⟩,_,hc⟩:=h4 i hil
 have e:(L.map Mf).getD i Br=Mf L[i]:=by rw [List.getD_eq_getElem?_getD,List.getElem?_map,List.getElem?_eq_getElem hil];rfl
 rw [e]
 refine ⟨u,h0,?_,?_,?_,hst.nums _ _ hn⟩
 ·rw [Nat.zero_add];exact hst.ints b _ _ _ hz (hc 0 (by omega))
 ·rw [Nat.zero_add];exact hst.ints b _ _ _ hz (hc 1 (by omega))
 ·rw [Nat.zero_add];exact hst.ints b _ _ _ hz (hc 2 (by omega))
set_option maxRecDepth 100000 in
theorem Im (w:World) (base rb n r kk K bm m:Nat) (L:List StampP) (hS:SumsS w base rb n L) (hrn:r<n) (hk5:kk<5) (hL:LimL L K) (hkb:L.length*(K+2)+1≤200000000) (hll:L.length≤1000000) (hm:IntB w bm (m:Nat)) (hml:lim (m:Int)≤200000000) :
  Calls Tryz.prog 99 #[.pointer (some ⟨rb,r*5,none⟩),.int .i64 (kk:Int),.pointer (some ⟨bm,0,none⟩)] w fun e w'=>∃ v,e=.returned v∧Stab (fun w'=>CellRow w' v ((J0 L (r*5+kk) m).map Mf)) w'∧(J0 L (r*5+kk) m).length≤L.length∧w.grownBy w' none:=by
 obtain ⟨ms,E,hms,hE,hsnd⟩:=hS
 have hil:r*5+kk<ms.length:=by omega
 have i0:(0:Int)≤(kk:Int):=by omega
 have i1:(kk:Int)<5:=by omega
 obtain ⟨om,hmo⟩:∃ o,ms[r*5+kk]? = some o:=⟨_,List.getElem?_eq_getElem hil⟩
 have hcell:=hE.cell hmo
 have HE:=Ac hE
 have HSND:=Ac hsnd
 have HL:=Ac hL
 have HKB:=Ac hkb
 have HM:=Ac hm
 have HML:=Ac hml
 have HMO:=Ac hmo
 clear hE hsnd hL hkb hm hml hmo
 go_enter Tryz.func99,Tryz.ntmps99
 go_wp2_with fail
 refine (Tu w om).mono ?_
 rintro e w0 ⟨rfl,rfl⟩
 go_wp2_with fail
 refine (Ud w om L.length (fun c=>(E (r*5+kk) c).map Prod.fst) (fun mb h=>by subst h;exact (HE.out.maps _ _ HMO.out).2) (fun h c=>by subst h;rw [HE.out.nil _ c HMO.out];rfl) hll).mono ?_
 rintro e w1 ⟨v,S,rfl,hrise,hmem,hrow,hslen,hg1⟩
 obtain ⟨A,c,rfl,_,_,_⟩:=id hrow
 rw [D5] at *
 have HCOLS:Hid (S=G2 L (r*5+kk)):=Ac (A0b hrise fun c=>by
  rw [hmem c]
  have h5:=HSND.out (r*5+kk) c
  show ((E (r*5+kk) c).map Prod.fst).isSome=true↔_
  cases hx:E (r*5+kk) c with
  | none =>
   rw [hx] at h5
   split at h5
   ·simp at h5
   ·rename_i hh;simp [hh]
  | some bq =>
   rw [hx] at h5
   split at h5
   ·rename_i hh;simp [hh]
   ·simp at h5)
 have HMEM:=Ac hmem
 have HROW:=Ac hrow
 have HG1:=Ac hg1
 clear hrise hmem hrow hg1 hcell
 go_wp2_with fail
 go_loopw [7,20] (fun bv iv wr=>∃ k cnt:Nat,k≤S.length∧iv=.int .i64 k∧cnt≤k∧w1.grownBy wr none∧Hid (∃ xs,OwnQ wr w1.heap.size 55 3 bv cnt xs∧RecR 3 (CellV wr) xs ((S.take k).filterMap (F9 L (r*5+kk) m))∧cnt=((S.take k).filterMap (F9 L (r*5+kk) m)).length)) (fun _ iv _=>(S.length-intOf iv).toNat)
 case atStart=>exact ⟨0,0,by omega,rfl,by omega,Al _ _,Ac ⟨[],OwnQ.nil _ _ _ _,rfl,rfl⟩⟩
 case round =>
  obtain ⟨k,cnt,hk,rfl,hck,hg,hown⟩:=hrel
  by_cases hlt:k<S.length
  ·obtain ⟨b,o,rfl,u0⟩:=Xh (HROW.out) hlt
   have u0:=Aj hg u0 (by simp)
   have hcs:(E (r*5+kk) (S.getD k 0)).isSome=true:=by
    have:=(HMEM.out (S.getD k 0)).1 (by rw [List.getD_eq_getElem?_getD,List.getElem?_eq_getElem hlt];exact List.getElem_mem _)
    have h2:((E (r*5+kk) (S.getD k 0)).map Prod.fst).isSome=true:=this
    rwa [Option.isSome_map] at h2
   have htake:(S.take (k+1)).filterMap (F9 L (r*5+kk) m)=(S.take k).filterMap (F9 L (r*5+kk) m)++(F9 L (r*5+kk) m (S.getD k 0)).toList:=by
    rw [List.take_add_one,List.getD_eq_getElem?_getD,List.getElem?_eq_getElem hlt,List.filterMap_append]
    simp only [Option.toList_some,Option.getD_some]
    cases hx:F9 L (r*5+kk) m S[k]<;>simp [hx]
   generalize S.getD k 0=c at *
   obtain ⟨bq,hEc⟩:=Option.isSome_iff_exists.1 hcs
   obtain ⟨b2,q⟩:=bq
   have hq:=Ld HSND.out hEc
   rw [hq] at hEc
   have hom:∃ mb,om=some mb:=by
    cases om with
    | none=>rw [HE.out.nil _ c HMO.out] at hEc;cases hEc
    | some mb=>exact ⟨mb,rfl⟩
   obtain ⟨mb,rfl⟩:=hom
   have gw:=Ae HG1.out hg
   have hcell:=Aj gw (HE.out.cell HMO.out) (by simp)
   have hmap:=((HE.out.more gw).maps _ _ HMO.out).2
   have hIc:I64 c:=hmap.1 c b2 (show (E (r*5+kk) c).map Prod.fst=_ by rw [hEc];rfl)
   have hrat:=((HE.out.more gw).rats _ _ _ _ hEc).2
   have hF:(E (r*5+kk) c).map Prod.fst=some b2:=by rw [hEc];rfl
   have HRAT:=Ac hrat
   have HTAKE:=Ac htake
   have HGW:=Ac gw
   have HLT:=Ac hlt
   have HEC:=Ac hEc
   have HCK:=Ac hck
   clear hrat htake gw hcs hq hEc hck
   go_wp2_with (first
    | (at_lookup;refine P6 rfl _ _ rfl c hIc hmap rfl rfl (.pointer (some ⟨b2,0,none⟩)) (by rw [hF];rfl) ?_)
    | fail)
   refine (Rp wr b2 _ HRAT.out).mono ?_
   rintro e w' ⟨rfl,rfl⟩
   by_cases hz:accQ L (r*5+kk) c=0
   ·have t0:((accQ L (r*5+kk) c).num.sign != 0)=false:=by rw [hz];rfl
    have HZ:Hid (F9 L (r*5+kk) m c=none):=Ac (by unfold F9;rw [if_pos hz])
    clear hz
    go_wp2_with fail
    have hlt:=HLT.out
    have hck:=HCK.out
    exact ⟨⟨k+1,cnt,by omega,by go_num,by omega,hg,Ac (by rw [HTAKE.out,HZ.out,Option.toList_none,List.append_nil];exact hown.out)⟩,by simp [intOf];omega⟩
   ·have hns:(accQ L (r*5+kk) c).num≠0:=fun e=>hz (Rat.num_eq_zero.1 e)
    have t0:((accQ L (r*5+kk) c).num.sign != 0)=true:=by rw [bne_iff_ne];exact fun e=>hns (Int.sign_eq_zero_iff_zero.1 e)
    have HZ:Hid (F9 L (r*5+kk) m c=some (c,Fi (accQ L (r*5+kk) c) m)):=Ac (by unfold F9;rw [if_neg hz])
    have hla:=(Kr HL.out (r*5+kk) c).mono HKB.out
    have HLW:=Ac (Om hla HML.out)
    have HLA:=Ac hla
    have HGX:=Ac hg
    have HIC:=Ac hIc
    clear hz hns hla hmap hcell hg
    go_wp2_with fail
    refine (Mr wr b2 bm _ _ HRAT.out (HM.out.more HGW.out) HLA.out HML.out).mono ?_
    rintro e w2 ⟨b3,rfl,hi3,hb3,hg3⟩
    have hi3:IntB w2 b3 (Fi (accQ L (r*5+kk) c) m):=hi3
    generalize hzz:Fi (accQ L (r*5+kk) c) m=z at *
    clear hzz
    have HI3:=Ac hi3
    have HG3:=Ac hg3
    clear hi3 hb3 hg3
    go_wp2_with fail
    refine (E6 w2 b3 0 z HI3.out.at (Nat.le_trans HLW.out (by omega))).mono ?_
    rintro e w3 ⟨v3,rfl,hn3,hf3,hg4⟩
    obtain ⟨A3,n3,c3,rfl⟩:=hn3.ctor
    have HN3:=Ac hn3
    have HG4:=Ac (Ae HG3.out hg4)
    obtain ⟨xs,ho1,ho2,ho3⟩:=hown.out
    have HO1:=Ac (ho1.more HG4.out)
    have HO2:=Ac (ho2.imp (R':=CellV w3) fun cs a h=>h.row HG4.out (fun r h=>by cases h))
    have HO3:=Ac ho3
    have hsw:w1.heap.size≤w3.heap.size:=(Ae HGX.out HG4.out).size
    clear hn3 hf3 hg4 ho1 ho2 ho3 hown
    go_wp2_with (first
     | (at_builtin;refine Cu w1.heap.size rfl (.tmp 35) (.tmp 42) 50 55 (.agg #[.int .i64 0,.bool false,.slice none 0 0]) 3 40 rfl Tryz.underlying50 Yh rfl (by omega) (by omega) u7 cnt xs #[.int .i64 c,.bool (decide (z<0)),.slice A3 n3 c3] (by rfl) HO1.out (by rfl) (by rfl) (by simp [Value.oneCell']) (by have:=HCK.out;omega) (by omega) (Ox _ _ _ _ _) Qk ?_;intro g cap w5 hown5 hg5;have H5:=Ac (And.intro hown5 hg5);clear hown5 hg5)
     | fail)
    have hlt:=HLT.out
    have hck:=HCK.out
    have hpl:∀ r,u7.ownBlock=some r→Dt (w3.alloc (.cells #[.int .i64 c,.bool (decide (z<0)),.slice A3 n3 c3] 55)) r:=fun r h=>(HO1.out.more (Af _ _ _)).2 r h
    refine ⟨⟨k+1,cnt+1,by omega,by go_num,by omega,Gt (Ae (Ae HGX.out HG4.out) (Af _ _ _)) (HO1.out.more (Af _ _ _)) H5.out.2,Ac ⟨_,H5.out.1,?_,?_⟩⟩,by simp [intOf];omega⟩
    ·rw [HTAKE.out,HZ.out]
     exact RecR.snoc (k:=3) (ys:=[.int .i64 c,.bool (decide (z<0)),.slice A3 n3 c3]) (a:=(c,z)) rfl (show CellV w5 _ (c,z) from ⟨HIC.out,.slice A3 n3 c3,rfl,((HN3.out.more (Af _ _ _)).row H5.out.2 hpl)⟩) (HO2.out.imp fun cs a h=>(h.row (Af _ _ none) (fun r h=>by cases h)).row H5.out.2 hpl)
    ·rw [HTAKE.out,HZ.out,List.length_append,←HO3.out];rfl
  ·obtain rfl:k=S.length:=by omega
   obtain ⟨xs,h1,h2,h3⟩:=hown.out
   rw [List.take_of_length_le (Nat.le_refl _)] at h2 h3
   have HCR:=Ac (OwnQ.cellStab h1 h2 h3)
   have HC:=HCOLS
   clear hown h1 h2 h3
   go_wp2_with fail
   go_ret
   refine ⟨_,rfl,?_,?_,Ae HG1.out hg⟩
   ·unfold J0
    rw [←HC.out];exact HCR.out
   ·unfold J0
    rw [←HC.out];exact Nat.le_trans (List.length_filterMap_le _ _) hslen
end
section
open Go.RowKit Go.Maps
open Rat
def kOf (L:List StampP) (r:Nat):Int:=Fi (accQ L (r*5+4) 0) (E4 L r)
def Bb (L:List StampP) (r k:Nat):List CellP:=(J0 L (r*5+k) (E4 L r)).map Mf
def Dk (L:List StampP) (r:Nat):RowP:=⟨decide (((E4 L r:Nat):Int)<0),digs (E4 L r:Nat),Bb L r 1,Bb L r 2,Bb L r 3,decide (kOf L r<0),digs (kOf L r)⟩
theorem Mw (m:Nat):Fi 0 m=0:=by unfold Fi;simp
theorem Il {w:World} {s:Nat} (h:Blk w s #[.bool false,.slice none 0 0,.slice none 0 0,.slice none 0 0,.slice none 0 0,.bool false,.slice none 0 0]):Dt w s:=by
 obtain ⟨T,h⟩:=h
 refine C1 h ?_
 intro u hu n
 simp at hu
 rcases hu with rfl | rfl | rfl | rfl<;>simp
theorem M6 {w:World} {s:Nat} (h:Blk w s #[.bool false,.slice none 0 0,.slice none 0 0,.slice none 0 0,.slice none 0 0,.bool false,.slice none 0 0]):Soft w s:=⟨Il h,fun n=>by rw [h.cell 0];simp⟩
set_option maxRecDepth 100000 in
theorem V8 (w:World) (base rb n r K:Nat) (L:List StampP) (hS:SumsS w base rb n L) (hrn:r<n) (hL:LimL L K) (hkb:L.length*(K+2)+1≤200000000) (hll:L.length≤1000000) :
  Calls Tryz.prog 46 #[.pointer (some ⟨rb,r*5,none⟩)] w fun e w'=>∃ vm va vh vs vk,e=.returned (.agg #[.bool (Dk L r).mneg,vm,va,vh,vs,.bool (Dk L r).kneg,vk])∧Nums w' vm (Dk L r).mlimbs∧Stab (fun w'=>CellRow w' va (Dk L r).a) w'∧Stab (fun w'=>CellRow w' vh (Dk L r).h) w'∧Stab (fun w'=>CellRow w' vs (Dk L r).s) w'∧Nums w' vk (Dk L r).klimbs∧
   ((Dk L r).a.length≤L.length∧(Dk L r).h.length≤L.length∧(Dk L r).s.length≤L.length)∧w.grownBy w' none:=by
 have ga:=Af w (.cells #[.bool false,.slice none 0 0,.slice none 0 0,.slice none 0 0,.slice none 0 0,.bool false,.slice none 0 0] 52) none
 have hB:=Blk.new w #[.bool false,.slice none 0 0,.slice none 0 0,.slice none 0 0,.slice none 0 0,.bool false,.slice none 0 0] 52
 have HB:=Ac hB
 have HS:=Ac (hS.more ga)
 have HL:=Ac hL
 have HGA:=Ac ga
 have hml:=Xb hL r
 have HML:Hid (lim ((E4 L r:Nat):Int)≤200000000):=Ac (Nat.le_trans hml (by rw [Nat.mul_add] at hkb;omega))
 have HKB:=Ac hkb
 clear hS hL ga hB hml hkb
 go_enter Tryz.func46,Tryz.ntmps46
 go_wp2_with fail
 have hsa:(w.alloc (.cells #[.bool false,.slice none 0 0,.slice none 0 0,.slice none 0 0,.slice none 0 0,.bool false,.slice none 0 0] 52)).heap.size=w.heap.size+1:=by simp
 have HSA:=Ac hsa
 clear hsa
 generalize w.alloc (.cells #[.bool false,.slice none 0 0,.slice none 0 0,.slice none 0 0,.slice none 0 0,.bool false,.slice none 0 0] 52)=wa at *
 generalize hsz:w.heap.size=s at *
 have HSZ:=Ac hsz
 clear hsz
 refine (Th wa base rb n r K L HS.out hrn HL.out (Nat.le_trans HKB.out (by omega))).mono ?_
 rintro e w1 ⟨bm,rfl,hi1,hb1,hg1⟩
 have HI1:=Ac hi1
 have HG1:=Ac hg1
 clear hi1 hb1 hg1
 go_wp2_with fail
 refine (E6 w1 bm 0 _ HI1.out.at (Nat.le_trans HML.out (by omega))).mono ?_
 rintro e w2 ⟨vm,rfl,hn2,hf2,hg2⟩
 obtain ⟨Am,nm,cm,rfl⟩:=hn2.ctor
 have HN2:=Ac hn2
 have HG2:=Ac (Ae HG1.out hg2)
 have HI2:=Ac (HI1.out.more hg2)
 clear hn2 hf2 hg2
 go_wp2_with fail
 refine (Im w2 base rb n r 1 K bm (E4 L r) L (HS.out.more HG2.out) hrn (by omega) HL.out HKB.out hll HI2.out HML.out).mono ?_
 rintro e w3 ⟨va,rfl,hc3,hf3,hg3⟩
 have HC3:=Ac (show Stab (fun w'=>CellRow w' va (Bb L r 1)) w3 from hc3)
 have HF3:=Ac (show (Bb L r 1).length≤L.length from by unfold Bb;rw [List.length_map];exact hf3)
 have HG3:=Ac (Ae HG2.out hg3)
 have HI3:=Ac (HI2.out.more hg3)
 have HN3:=Ac (HN2.out.more hg3)
 clear hc3 hf3 hg3
 go_wp2_with fail
 refine (Im w3 base rb n r 2 K bm (E4 L r) L (HS.out.more HG3.out) hrn (by omega) HL.out HKB.out hll HI3.out HML.out).mono ?_
 rintro e w4 ⟨vh,rfl,hc4,hf4,hg4⟩
 have HC4:=Ac (show Stab (fun w'=>CellRow w' vh (Bb L r 2)) w4 from hc4)
 have HF4:=Ac (show (Bb L r 2).length≤L.length from by unfold Bb;rw [List.length_map];exact hf4)
 have HG4:=Ac (Ae HG3.out hg4)
 have HI4:=Ac (HI3.out.more hg4)
 have HN4:=Ac (HN3.out.more hg4)
 have HC3':=Ac (HC3.out.more hg4)
 clear hc4 hf4 hg4
 go_wp2_with fail
 refine (Im w4 base rb n r 3 K bm (E4 L r) L (HS.out.more HG4.out) hrn (by omega) HL.out HKB.out hll HI4.out HML.out).mono ?_
 rintro e w5 ⟨vs,rfl,hc5,hf5,hg5⟩
 have HC5:=Ac (show Stab (fun w'=>CellRow w' vs (Bb L r 3)) w5 from hc5)
 have HF5:=Ac (show (Bb L r 3).length≤L.length from by unfold Bb;rw [List.length_map];exact hf5)
 have HG5:=Ac (Ae HG4.out hg5)
 have HI5:=Ac (HI4.out.more hg5)
 have HN5:=Ac (HN4.out.more hg5)
 have HC3'':=Ac (HC3'.out.more hg5)
 have HC4':=Ac (HC4.out.more hg5)
 clear hc5 hf5 hg5
 obtain ⟨Aa,ca,rfl,_⟩:=HC3''.out.here.ctor
 obtain ⟨Ah,ch,rfl,_⟩:=HC4'.out.here.ctor
 obtain ⟨As,cs,rfl,_⟩:=HC5.out.here.ctor
 obtain ⟨ms,E,hms,hE,hsnd⟩:=HS.out
 have hil:r*5+4<ms.length:=by omega
 obtain ⟨om,hmo⟩:∃ o,ms[r*5+4]? = some o:=⟨_,List.getElem?_eq_getElem hil⟩
 have gr:=Af w5 (.cells #[.bool (decide (((E4 L r:Nat):Int)<0)),.slice Am nm cm,.slice Aa (Bb L r 1).length ca,.slice Ah (Bb L r 2).length ch,.slice As (Bb L r 3).length cs,.bool false,.slice none 0 0] 52) none
 have hBR:=Blk.new w5 #[.bool (decide (((E4 L r:Nat):Int)<0)),.slice Am nm cm,.slice Aa (Bb L r 1).length ca,.slice Ah (Bb L r 2).length ch,.slice As (Bb L r 3).length cs,.bool false,.slice none 0 0] 52
 have hE6:=hE.more (Ae HG5.out gr)
 have hcell:=hE6.cell hmo
 have i0:I64 0:=⟨by decide,by decide⟩
 have hl0:=fun W:World=>(Wy W i0).1
 have HE6:=Ac hE6
 have HGR:=Ac (Ae HG5.out gr)
 have HMO:=Ac hmo
 have HSND:=Ac hsnd
 have HBR:=Ac hBR
 have HN6:=Ac (HN5.out.more gr)
 have HI6:=Ac (HI5.out.more gr)
 have HA6:=Ac (HC3''.out.more gr)
 have HH6:=Ac (HC4'.out.more gr)
 have HS6:=Ac (HC5.out.more gr)
 have hHSB:=HB.out.more (Ae HG5.out gr)
 have HSB:=Ac hHSB
 have hst:=hHSB.lt
 have HGR5:=Ac gr
 clear HI5 HC3' HC3 HC4 HN4 HN3 HN2 HI4 HI3 HI2 HI1 HG1 HG2 HG3 HG4 HB hHSB hE6 hE hmo hsnd gr
 have HM:Hid (((E4 L r:Nat):Int)=((E4 L r:Nat):Int)):=Ac rfl
 have HR1:Hid ((Dk L r).mneg=decide (((E4 L r:Nat):Int)<0)∧(Dk L r).kneg=decide (kOf L r<0)∧(Dk L r).klimbs=digs (kOf L r)):=Ac ⟨rfl,rfl,rfl⟩
 generalize hmn:decide (((E4 L r:Nat):Int)<0)=mn at *
 cases om with
 | none =>
  have HKO:Hid (kOf L r=0):=Ac (by unfold kOf;rw [Lc HSND.out (HE6.out.nil _ 0 HMO.out),Mw])
  obtain ⟨r0,r1,r2,r3,r4,r5,r6⟩:=hBR.seven
  have HNK:Hid (Nums (w5.alloc (.cells #[.bool mn,.slice Am nm cm,.slice Aa (Bb L r 1).length ca,.slice Ah (Bb L r 2).length ch,.slice As (Bb L r 3).length cs,.bool false,.slice none 0 0] 52)) (.slice none 0 0) (digs 0)):=Ac (Nums.nil _)
  obtain ⟨x0,x1,x2,x3,x4,x5,x6⟩:=HSB.out.seven
  have y0:=HSB.out.free 0
  have y1:=HSB.out.free 1
  have y2:=HSB.out.free 2
  have y3:=HSB.out.free 3
  have y4:=HSB.out.free 4
  have y5:=HSB.out.free 5
  have y6:=HSB.out.free 6
  go_wp2_with fail
  try simp only [Exit.inBlock,Exit.then]
  have hgf:(w5.alloc (.cells #[.bool mn,.slice Am nm cm,.slice Aa (Bb L r 1).length ca,.slice Ah (Bb L r 2).length ch,.slice As (Bb L r 3).length cs,.bool false,.slice none 0 0] 52)).grownBy ((((((((w5.alloc (.cells #[.bool mn,.slice Am nm cm,.slice Aa (Bb L r 1).length ca,.slice Ah (Bb L r 2).length ch,.slice As (Bb L r 3).length cs,.bool false,.slice none 0 0] 52)).setCell ⟨s,0,none⟩ (.bool mn)).setCell ⟨s,1,none⟩ (.slice Am nm cm)).setCell ⟨s,2,none⟩ (.slice Aa (Bb L r 1).length ca)).setCell ⟨s,3,none⟩ (.slice Ah (Bb L r 2).length ch)).setCell ⟨s,4,none⟩ (.slice As (Bb L r 3).length cs)).setCell ⟨s,5,none⟩ (.bool false)).setCell ⟨s,6,none⟩ (.slice none 0 0)) (some s):=Ae (Ae (Ae (Ae (Ae (Ae (Au _ _ _ _) (Au _ _ _ _)) (Au _ _ _ _)) (Au _ _ _ _)) (Au _ _ _ _)) (Au _ _ _ _)) (Au _ _ _ _)
  have hpl:=Il HSB.out
  have hsf:=M6 HSB.out
  have hsy:=StayR.row hgf hsf
  refine bodyPost_ret (v:=.agg #[.bool mn,.slice Am nm cm,.slice Aa (Bb L r 1).length ca,.slice Ah (Bb L r 2).length ch,.slice As (Bb L r 3).length cs,.bool false,.slice none 0 0]) (by simp [results,Tryz.results46,go_sem, *]) rfl ⟨.slice Am nm cm,.slice Aa (Bb L r 1).length ca,.slice Ah (Bb L r 2).length ch,.slice As (Bb L r 3).length cs,.slice none 0 0,?_,HN6.out.other hgf hpl,HA6.out.step hsy,HH6.out.step hsy,HS6.out.step hsy,?_,⟨HF3.out,HF4.out,HF5.out⟩,Aw (Ae HGA.out HGR.out) hgf (by have:=HSZ.out;omega)⟩
  ·rw [HR1.out.1,HR1.out.2.1]
   rw [HKO.out];rfl
  ·rw [HR1.out.2.2]
   rw [HKO.out];exact HNK.out.other hgf hpl
 | some mp =>
  have hmap:=(HE6.out.maps _ _ HMO.out).2
  cases hEc:E (r*5+4) 0 with
  | none =>
   have HKO:Hid (kOf L r=0):=Ac (by unfold kOf;rw [Lc HSND.out hEc,Mw])
   obtain ⟨r0,r1,r2,r3,r4,r5,r6⟩:=hBR.seven
   have HNK:Hid (Nums (w5.alloc (.cells #[.bool mn,.slice Am nm cm,.slice Aa (Bb L r 1).length ca,.slice Ah (Bb L r 2).length ch,.slice As (Bb L r 3).length cs,.bool false,.slice none 0 0] 52)) (.slice none 0 0) (digs 0)):=Ac (Nums.nil _)
   obtain ⟨x0,x1,x2,x3,x4,x5,x6⟩:=HSB.out.seven
   have y0:=HSB.out.free 0
   have y1:=HSB.out.free 1
   have y2:=HSB.out.free 2
   have y3:=HSB.out.free 3
   have y4:=HSB.out.free 4
   have y5:=HSB.out.free 5
   have y6:=HSB.out.free 6
   go_wp2_with (first
    | (at_lookup;refine Fj rfl _ _ rfl 0 i0 hmap rfl rfl (.pointer none) false (by rw [hEc];rfl) (by rw [hEc];rfl) ?_)
    | fail)
   go_wp2_with fail
   try simp only [Exit.inBlock,Exit.then]
   have hgf:(w5.alloc (.cells #[.bool mn,.slice Am nm cm,.slice Aa (Bb L r 1).length ca,.slice Ah (Bb L r 2).length ch,.slice As (Bb L r 3).length cs,.bool false,.slice none 0 0] 52)).grownBy ((((((((w5.alloc (.cells #[.bool mn,.slice Am nm cm,.slice Aa (Bb L r 1).length ca,.slice Ah (Bb L r 2).length ch,.slice As (Bb L r 3).length cs,.bool false,.slice none 0 0] 52)).setCell ⟨s,0,none⟩ (.bool mn)).setCell ⟨s,1,none⟩ (.slice Am nm cm)).setCell ⟨s,2,none⟩ (.slice Aa (Bb L r 1).length ca)).setCell ⟨s,3,none⟩ (.slice Ah (Bb L r 2).length ch)).setCell ⟨s,4,none⟩ (.slice As (Bb L r 3).length cs)).setCell ⟨s,5,none⟩ (.bool false)).setCell ⟨s,6,none⟩ (.slice none 0 0)) (some s):=Ae (Ae (Ae (Ae (Ae (Ae (Au _ _ _ _) (Au _ _ _ _)) (Au _ _ _ _)) (Au _ _ _ _)) (Au _ _ _ _)) (Au _ _ _ _)) (Au _ _ _ _)
   have hpl:=Il HSB.out
   have hsf:=M6 HSB.out
   have hsy:=StayR.row hgf hsf
   refine bodyPost_ret (v:=.agg #[.bool mn,.slice Am nm cm,.slice Aa (Bb L r 1).length ca,.slice Ah (Bb L r 2).length ch,.slice As (Bb L r 3).length cs,.bool false,.slice none 0 0]) (by simp [results,Tryz.results46,go_sem, *]) rfl ⟨.slice Am nm cm,.slice Aa (Bb L r 1).length ca,.slice Ah (Bb L r 2).length ch,.slice As (Bb L r 3).length cs,.slice none 0 0,?_,HN6.out.other hgf hpl,HA6.out.step hsy,HH6.out.step hsy,HS6.out.step hsy,?_,⟨HF3.out,HF4.out,HF5.out⟩,Aw (Ae HGA.out HGR.out) hgf (by have:=HSZ.out;omega)⟩
   ·rw [HR1.out.1,HR1.out.2.1]
    rw [HKO.out];rfl
   ·rw [HR1.out.2.2]
    rw [HKO.out];exact HNK.out.other hgf hpl
  | some bq =>
   obtain ⟨b,q⟩:=bq
   have hq:=Ld HSND.out hEc
   rw [hq] at hEc
   have hF:(E (r*5+4) 0).map Prod.fst=some b:=by rw [hEc];rfl
   have HRAT:=Ac ((HE6.out.rats _ _ _ _ hEc).2)
   have HKZ:Hid (Fi (accQ L (r*5+4) 0) (E4 L r)=kOf L r):=Ac rfl
   have hla:=(Kr HL.out (r*5+4) 0).mono HKB.out
   have HLW:=Ac (Om hla HML.out)
   have HLA:=Ac hla
   clear hq hla
   go_wp2_with (first
    | (at_lookup;refine Fj rfl _ _ rfl 0 i0 hmap rfl rfl (.pointer (some ⟨b,0,none⟩)) true (by rw [hEc];rfl) (by rw [hEc];rfl) ?_)
    | fail)
   generalize hw6:w5.alloc (.cells #[.bool mn,.slice Am nm cm,.slice Aa (Bb L r 1).length ca,.slice Ah (Bb L r 2).length ch,.slice As (Bb L r 3).length cs,.bool false,.slice none 0 0] 52)=w6 at *
   obtain ⟨tb,hrb⟩:∃ tb,w5.heap.size=tb:=⟨_,rfl⟩
   rw [hrb] at hBR HBR ⊢
   have HTB:=Ac hrb
   have hst:s<tb:=by rw [←hrb];have:=(Ae HGR5.out (Al _ _)).size;have:=HG5.out.size;have:=HSA.out;omega
   clear hw6 hrb
   refine (Mr w6 b bm _ _ HRAT.out HI6.out HLA.out HML.out).mono ?_
   rintro e w7 ⟨b7,rfl,hi7,hb7,hg7⟩
   have hi7:IntB w7 b7 (Fi (accQ L (r*5+4) 0) (E4 L r)):=hi7
   have HI7:=Ac hi7
   have HG7:=Ac hg7
   clear hi7 hb7 hg7 hEc hF hmap
   go_wp2_with fail
   refine (E6 w7 b7 0 _ HI7.out.at (Nat.le_trans HLW.out (by omega))).mono ?_
   rintro e w8 ⟨vk,rfl,hn8,hf8,hg8⟩
   rw [HKZ.out] at hn8
   rw [HKZ.out]
   obtain ⟨Ak,nk,ck,rfl⟩:=hn8.ctor
   have HG8:=Ac (Ae HG7.out hg8)
   have HN8:=Ac hn8
   have hblk:=HBR.out.more HG8.out
   obtain ⟨r0,r1,r2,r3,r4,r5,r6⟩:=hblk.seven
   have z5:=hblk.free 5
   have z6:=hblk.free 6
   have hg9:w8.grownBy ((w8.setCell ⟨tb,5,none⟩ (.bool (decide (kOf L r<0)))).setCell ⟨tb,6,none⟩ (.slice Ak nk ck)) (some tb):=Ae (Au _ _ _ _) (Au _ _ _ _)
   have hpt:Dt w8 tb:=by
    obtain ⟨T,hb⟩:=hblk
    refine C1 hb ?_
    intro u hu n
    simp only [List.mem_cons,List.not_mem_nil,or_false] at hu
    rcases hu with rfl | rfl | rfl | rfl | rfl | rfl | rfl<;>simp
   have h59:=Aw (Ae HGR5.out HG8.out) hg9 (Nat.le_of_eq HTB.out)
   have HN6:=Ac (HN5.out.more h59)
   have HA6:=Ac (HC3''.out.more h59)
   have HH6:=Ac (HC4'.out.more h59)
   have HS6:=Ac (HC5.out.more h59)
   have HNK:=Ac (HN8.out.other hg9 hpt)
   have hstb:s≠tb:=by omega
   have HSB:=Ac ((HSB.out.more HG8.out).other hg9 hstb)
   have HGR:=Ac (Ae HG5.out h59)
   clear hpt h59 hg9 hblk HKZ hf8 hn8 hg8
   obtain ⟨x0,x1,x2,x3,x4,x5,x6⟩:=HSB.out.seven
   have y0:=HSB.out.free 0
   have y1:=HSB.out.free 1
   have y2:=HSB.out.free 2
   have y3:=HSB.out.free 3
   have y4:=HSB.out.free 4
   have y5:=HSB.out.free 5
   have y6:=HSB.out.free 6
   go_wp2_with fail
   try simp only [Exit.inBlock,Exit.then]
   have hgf:((w8.setCell ⟨tb,5,none⟩ (.bool (decide (kOf L r<0)))).setCell ⟨tb,6,none⟩ (.slice Ak nk ck)).grownBy (((((((((w8.setCell ⟨tb,5,none⟩ (.bool (decide (kOf L r<0)))).setCell ⟨tb,6,none⟩ (.slice Ak nk ck)).setCell ⟨s,0,none⟩ (.bool mn)).setCell ⟨s,1,none⟩ (.slice Am nm cm)).setCell ⟨s,2,none⟩ (.slice Aa (Bb L r 1).length ca)).setCell ⟨s,3,none⟩ (.slice Ah (Bb L r 2).length ch)).setCell ⟨s,4,none⟩ (.slice As (Bb L r 3).length cs)).setCell ⟨s,5,none⟩ (.bool (decide (kOf L r<0)))).setCell ⟨s,6,none⟩ (.slice Ak nk ck)) (some s):=Ae (Ae (Ae (Ae (Ae (Ae (Au _ _ _ _) (Au _ _ _ _)) (Au _ _ _ _)) (Au _ _ _ _)) (Au _ _ _ _)) (Au _ _ _ _)) (Au _ _ _ _)
   have hpl:=Il HSB.out
   have hsf:=M6 HSB.out
   have hsy:=StayR.row hgf hsf
   refine bodyPost_ret (v:=.agg #[.bool mn,.slice Am nm cm,.slice Aa (Bb L r 1).length ca,.slice Ah (Bb L r 2).length ch,.slice As (Bb L r 3).length cs,.bool (decide (kOf L r<0)),.slice Ak nk ck]) (by simp [results,Tryz.results46,go_sem, *]) rfl ⟨.slice Am nm cm,.slice Aa (Bb L r 1).length ca,.slice Ah (Bb L r 2).length ch,.slice As (Bb L r 3).length cs,.slice Ak nk ck,?_,HN6.out.other hgf hpl,HA6.out.step hsy,HH6.out.step hsy,HS6.out.step hsy,?_,⟨HF3.out,HF4.out,HF5.out⟩,Aw (Ae HGA.out HGR.out) hgf (by have:=HSZ.out;omega)⟩
   ·rw [HR1.out.1,HR1.out.2.1]
    skip
   ·rw [HR1.out.2.2]
    skip;exact HNK.out.other hgf hpl
end
section
open Go.RowKit Go.Maps
open Rat
def I0 (r:RowP) (k:Nat):List CellP:=if k=0 then r.a else if k=1 then r.h else r.s
def Ex (l:List CellP):List Nat:=l.map fun c=>c.limbs.length
def E0 (r:RowP):Nat→List Nat
 | 0=>[r.mlimbs.length,r.klimbs.length]
 | k+1=>E0 r k++Ex (I0 r k)
def LenV (cs:List Value) (n:Nat):Prop:=∃ b A c,cs=[.bool b,.slice A n c]
theorem Sd {l:List CellP} {t:Nat} (h:t<l.length):Ex (l.take (t+1))=Ex (l.take t)++[(l.getD t Br).limbs.length]:=by
 unfold Ex
 rw [List.take_add_one,List.map_append,List.getD_eq_getElem?_getD,List.getElem?_eq_getElem h];rfl
theorem Jy (r:RowP):∀ k,k≤3→(E0 r k).length≤2+r.a.length+r.h.length+r.s.length
 | 0,_=>by simp [E0];omega
 | 1,_=>by simp [E0,Ex,I0];omega
 | 2,_=>by simp [E0,Ex,I0];omega
 | 3,_=>by simp [E0,Ex,I0];omega
def LenRow (w:World) (v:Value) (ns:List Nat):Prop :=
 ∃ A c,v=.slice A ns.length c∧(0<ns.length→∃ b,A=some ⟨b,0,none⟩∧∀ i (hi:i<ns.length),∃ b' A' c',w.cell? ⟨b,i*2,none⟩=some (.bool b')∧w.cell? ⟨b,i*2+1,none⟩=some (.slice A' ns[i] c'))
theorem LenRow.at {w:World} {A:Option Addr} {n c:Nat} {ns:List Nat} (h:LenRow w (.slice A n c) ns) {i:Nat} (hi:i<ns.length):∃ b b' A' c',A=some ⟨b,0,none⟩∧w.cell? ⟨b,i*2,none⟩=some (.bool b')∧w.cell? ⟨b,i*2+1,none⟩=some (.slice A' ns[i] c'):=by
 obtain ⟨A0,c0,e,h1⟩:=h
 injection e with e1 e2 e3
 subst e1
 obtain ⟨b,rfl,h2⟩:=h1 (by omega)
 obtain ⟨b',A',c',u0,u1⟩:=h2 i hi
 exact ⟨b,b',A',c',rfl,u0,u1⟩
theorem LenRow.more {w w':World} {v:Value} {ns:List Nat} (h:LenRow w v ns) (hg:w.grownBy w' none):LenRow w' v ns:=by
 obtain ⟨A0,c0,rfl,h1⟩:=h
 refine ⟨A0,c0,rfl,fun hp=>?_⟩
 obtain ⟨b,rfl,h2⟩:=h1 hp
 refine ⟨b,rfl,fun i hi=>?_⟩
 obtain ⟨b',A',c',u0,u1⟩:=h2 i hi
 exact ⟨b',A',c',Aj hg u0 (by simp),Aj hg u1 (by simp)⟩
theorem OwnQ.count {α:Type} {w:World} {base:Nat} {e:TypeId} {k:Nat} {v:Value} {n:Nat} {xs:List Value} {R:List Value→α→Prop} {L:List α} (h:OwnQ w base e k v n xs) (hi:RecR k R xs L) (hk:0<k):n=L.length:=by
 have h1:=h.1.1
 rw [hi.length] at h1
 exact (Nat.eq_of_mul_eq_mul_right hk h1).symm
theorem OwnQ.lenRow {w:World} {base:Nat} {e:TypeId} {v:Value} {n:Nat} {xs:List Value} {ns:List Nat} (h:OwnQ w base e 2 v n xs) (hi:RecR 2 LenV xs ns) (hn:n=ns.length):LenRow w v ns:=by
 obtain ⟨A,c,rfl,_,_,h3⟩:=h.recs hi hn
 refine ⟨A,c,rfl,fun hp=>?_⟩
 obtain ⟨b,rfl,h4⟩:=h3 hp
 refine ⟨b,rfl,fun i hi=>?_⟩
 obtain ⟨cs,⟨b',A',c',rfl⟩,_,hc⟩:=h4 i hi
 exact ⟨b',A',c',hc 0 (by omega),hc 1 (by omega)⟩
set_option maxRecDepth 100000 in
theorem P3 (w:World) (r:RowP) (mn kn:Bool) (Am Aa Ah As Ak:Option Addr) (cm ca ch cs ck:Nat) (ha:CellRow w (.slice Aa r.a.length ca) r.a) (hh:CellRow w (.slice Ah r.h.length ch) r.h) (hs:CellRow w (.slice As r.s.length cs) r.s)
  (l1:r.a.length≤1000000) (l2:r.h.length≤1000000) (l3:r.s.length≤1000000) :
  Calls Tryz.prog 47 #[.agg #[.bool mn,.slice Am r.mlimbs.length cm,.slice Aa r.a.length ca,.slice Ah r.h.length ch,.slice As r.s.length cs,.bool kn,.slice Ak r.klimbs.length ck]] w fun e w'=>∃ v,e=.returned v∧LenRow w' v (E0 r 3)∧w.grownBy w' none:=by
 have gw:=Af w (.cells #[.bool mn,.slice Am r.mlimbs.length cm,.slice Aa r.a.length ca,.slice Ah r.h.length ch,.slice As r.s.length cs,.bool kn,.slice Ak r.klimbs.length ck] 52) none
 have hB:=Blk.new w #[.bool mn,.slice Am r.mlimbs.length cm,.slice Aa r.a.length ca,.slice Ah r.h.length ch,.slice As r.s.length cs,.bool kn,.slice Ak r.klimbs.length ck] 52
 have hseg:∀ k,k<3→∃ A c,CellRow w (.slice A (I0 r k).length c) (I0 r k)∧(I0 r k).length≤1000000∧∀ W,(Instr.index 184 (.agg #[.slice Aa r.a.length ca,.slice Ah r.h.length ch,.slice As r.s.length cs]) (.int .i64 (k:Int))).run Tryz.prog W=.ok (.slice A (I0 r k).length c) W:=by
  intro k hk
  rcases (show k=0∨k=1∨k=2 by omega) with rfl | rfl | rfl
  ·exact ⟨Aa,ca,ha,l1,fun _=>by kernel_rfl⟩
  ·exact ⟨Ah,ch,hh,l2,fun _=>by kernel_rfl⟩
  ·exact ⟨As,cs,hs,l3,fun _=>by kernel_rfl⟩
 have HSEG:=Ac hseg
 obtain ⟨x0,x1,x2,x3,x4,x5,x6⟩:=hB.seven
 have HB:=Ac hB
 have HGW:=Ac gw
 have HLT:Hid (∀ k,k≤3→(E0 r k).length≤3000002):=Ac fun k hk=>by have:=Jy r k hk;omega
 have HL0:Hid (E0 r 0=[r.mlimbs.length,r.klimbs.length]):=Ac rfl
 clear ha hh hs hseg gw hB
 go_enter Tryz.func47,Tryz.ntmps47
 go_wp2_with fail
 have hsa:(w.alloc (.cells #[.bool mn,.slice Am r.mlimbs.length cm,.slice Aa r.a.length ca,.slice Ah r.h.length ch,.slice As r.s.length cs,.bool kn,.slice Ak r.klimbs.length ck] 52)).heap.size=w.heap.size+1:=by simp
 have HSA:=Ac hsa
 clear hsa
 generalize w.alloc (.cells #[.bool mn,.slice Am r.mlimbs.length cm,.slice Aa r.a.length ca,.slice Ah r.h.length ch,.slice As r.s.length cs,.bool kn,.slice Ak r.klimbs.length ck] 52)=wa at *
 generalize hsz:w.heap.size=s at *
 have HSZ:=Ac hsz
 clear hsz
 have gb:=Af wa (.cells #[.bool mn,.slice Am r.mlimbs.length cm,.bool kn,.slice Ak r.klimbs.length ck] 49) none
 have ho0:OwnQ (wa.alloc (.cells #[.bool mn,.slice Am r.mlimbs.length cm,.bool kn,.slice Ak r.klimbs.length ck] 49)) (s+1) 49 2 (.slice (some ⟨s+1,0,none⟩) 2 2) 2 [.bool mn,.slice Am r.mlimbs.length cm,.bool kn,.slice Ak r.klimbs.length ck]:=by
  have h1:=World.ownsRow_lit (e:=49) (size:=2) (base:=s+1) wa #[.bool mn,.slice Am r.mlimbs.length cm,.bool kn,.slice Ak r.klimbs.length ck] 2 (Nat.le_of_eq HSA.out.symm) (by decide) rfl
  rw [HSA.out] at h1
  refine ⟨h1,fun g hg=>?_⟩
  obtain rfl:s+1=g:=by simpa [Value.ownBlock] using hg
  refine C1 (Gu _ HSA.out.symm) ?_
  intro u hu n
  simp only [List.mem_cons,List.not_mem_nil,or_false] at hu
  rcases hu with rfl | rfl | rfl | rfl<;>simp
 have HO0:=Ac ho0
 have HGB:=Ac gb
 clear ho0 gb
 go_loopw [3,20] (fun bv iv wr=>∃ k:Nat,k≤3∧iv=.int .i64 k∧wa.grownBy wr none∧Hid (∃ (cnt:Nat) (xs:List Value),OwnQ wr (s+1) 49 2 bv cnt xs∧RecR 2 LenV xs (E0 r k))) (fun _ iv _=>(3-intOf iv).toNat)
 case atStart =>
  refine ⟨0,by omega,rfl,HGB.out,Ac ⟨2,_,HO0.out,?_⟩⟩
  rw [HL0.out]
  exact ⟨[.bool mn,.slice Am r.mlimbs.length cm],_,rfl,rfl,⟨_,_,_,rfl⟩,[.bool kn,.slice Ak r.klimbs.length ck],[],rfl,rfl,⟨_,_,_,rfl⟩,rfl⟩
 case round =>
  obtain ⟨k,hk,rfl,hg,hown⟩:=hrel
  by_cases hlt:k<3
  ·obtain ⟨A,c,hrow,hl,hix⟩:=HSEG.out k hlt
   have hlk:=HLT.out (k+1) (by omega)
   have HLK:Hid (E0 r (k+1)=E0 r k++Ex (I0 r k)):=Ac rfl
   rw [HLK.out,List.length_append] at hlk
   have hlo:(Ex (I0 r k)).length=(I0 r k).length:=by simp [Ex]
   rw [hlo] at hlk
   generalize I0 r k=seg at *
   have HROW:=Ac (hrow.more HGW.out)
   have HG:=Ac hg
   have HK3:=Ac hlt
   have HLKK:=Ac hlk
   clear hrow hlo hlk hg
   go_wp2_with fail
   obtain ⟨w5,rfl⟩:∃ w5:World,w5=wr:=⟨_,rfl⟩
   go_loopw [3,25] (fun bv iv wr=>∃ t:Nat,t≤seg.length∧iv=.int .i64 t∧wa.grownBy wr none∧Hid (∃ (cnt:Nat) (xs:List Value),OwnQ wr (s+1) 49 2 bv cnt xs∧RecR 2 LenV xs (E0 r k++Ex (seg.take t)))) (fun _ iv _=>(seg.length-intOf iv).toNat)
   case atStart =>
    obtain ⟨cnt,xs,h1,h2⟩:=hown.out
    exact ⟨0,by omega,rfl,HG.out,Ac ⟨cnt,xs,h1,by simpa [Ex] using h2⟩⟩
   case round =>
    clear hown
    obtain ⟨t,ht,rfl,hg,hown⟩:=hrel
    by_cases htl:t<seg.length
    ·obtain ⟨b,o,A',n',c',rfl,hI,u0,u1,u2,hn⟩:=(HROW.out.more hg).at htl
     have hnn:n'=(seg.getD t Br).limbs.length:=by obtain ⟨_,_,e,_⟩:=hn.form;injection e
     have htake:=Sd htl
     rw [←hnn] at htake
     generalize (seg.getD t Br).col=col at *
     generalize (seg.getD t Br).neg=neg at *
     have gc:=Af wr (.cells #[.int .i64 col,.bool neg,.slice A' n' c'] 55) none
     obtain ⟨m0,m1,m2⟩:=(Blk.new wr #[.int .i64 col,.bool neg,.slice A' n' c'] 55).three
     obtain ⟨cnt,xs,ho1,ho2⟩:=hown.out
     have ho3:=ho1.count ho2 (by omega)
     have HO1:=Ac (ho1.more gc)
     have HO2:=Ac ho2
     have HTK:=Ac htake
     have HTL:=Ac htl
     have HGC:=Ac (Ae hg gc)
     have hcl:cnt≤3000002:=by
      rw [ho3,List.length_append]
      have h5:(Ex (seg.take t)).length≤seg.length:=by simp [Ex];omega
      have:=HLKK.out
      omega
     have hsw:s+1≤(wr.alloc (.cells #[.int .i64 col,.bool neg,.slice A' n' c'] 55)).heap.size:=by
      have h1:=HGC.out.size
      rw [HSA.out] at h1;exact h1
     clear hown ho1 ho2 ho3 hnn hn htake gc hg hI
     go_upto_region 8 with (fail)
     have hzs:wr.heap.size<(wr.alloc (.cells #[.int .i64 col,.bool neg,.slice A' n' c'] 55)).heap.size:=by simp
     generalize wr.alloc (.cells #[.int .i64 col,.bool neg,.slice A' n' c'] 55)=wc at *
     generalize wr.heap.size=sq at *
     go_wp2_with (first
      | (at_builtin;refine Cu (s+1) rfl (.tmp 29) (.tmp 32) 61 49 (.agg #[.bool false,.slice none 0 0]) 2 32 rfl Tryz.underlying61 Ts rfl (by omega) (by omega) u3 cnt xs #[.bool neg,.slice A' n' c'] (by rfl) HO1.out (by rfl) (by rfl) (by simp [Value.oneCell']) (by omega) hsw (L7 _ _ _ _) Mi ?_;intro g cap w7 hown7 hg7;have H7:=Ac (And.intro hown7 hg7);clear hown7 hg7)
      | fail)
     have htl:=HTL.out
     have hgb:wa.grownBy w7 none:=Gt (Ae HGC.out (Af wc (.cells #[.bool neg,.slice A' n' c'] 49) none)) (by rw [HSA.out];exact HO1.out.more (Af _ _ _)) H7.out.2
     exact ⟨⟨.slice (some ⟨g,0,none⟩) (cnt+1) cap,_,_,⟨t+1,by omega,rfl,hgb,Ac ⟨cnt+1,_,H7.out.1,by rw [HTK.out,←List.append_assoc];exact RecR.snoc (k:=2) (ys:=[.bool neg,.slice A' n' c']) rfl ⟨_,_,_,rfl⟩ HO2.out⟩⟩,rfl,rfl,by go_num⟩,by simp [intOf];omega⟩
    ·obtain rfl:t=seg.length:=by omega
     obtain ⟨cnt,xs,h1,h2⟩:=hown.out
     rw [List.take_of_length_le (Nat.le_refl _)] at h2
     have HH:=Ac (And.intro h1 h2)
     clear hown h1 h2
     go_wp2_with fail
     have hk3:=HK3.out
     exact ⟨⟨k+1,by omega,by go_num,hg,Ac ⟨cnt,xs,HH.out.1,by rw [HLK.out];exact HH.out.2⟩⟩,by simp [intOf];omega⟩
  ·obtain rfl:k=3:=by omega
   obtain ⟨cnt,xs,h1,h2⟩:=hown.out
   have HH:=Ac (OwnQ.lenRow h1 h2 (h1.count h2 (by omega)))
   clear hown h1 h2
   go_wp2_with fail
   go_ret
   exact ⟨_,rfl,HH.out,Ae HGW.out hg⟩
end
section
open Go.RowKit
open Rat
def rdV (q:Rat):Int:=Of (decide (q.num<0)) false (digs q.num) (digs (q.den:Int))
def rdE (q:Rat):Int:=Oe (decide (q.num<0)) false (digs q.num) (digs (q.den:Int))
def nano:Rat:=(1000000000:Int) /. 1
def dcE (vals:List (Int × Int)) (step:Int):Int:=if step<0∨1000000000<step then 4 else rdE (numQ (vals.getD 0 (0,0)).1 (vals.getD 0 (0,0)).2*nano)
def dcV (vals:List (Int × Int)) (step:Int):Int:=if step<0∨1000000000<step then 0 else rdV (numQ (vals.getD 0 (0,0)).1 (vals.getD 0 (0,0)).2*nano)
set_option maxRecDepth 100000 in
theorem U8 (w:World) (vv sv:Value) (vals:List (Int × Int)) (steps:List Int) (step:Int) (hv:NumRow w vv vals) (hs:IntRow w sv steps) (hok:Di 1 vals steps) :
  Calls Tryz.prog 72 #[.agg #[.int .i64 1,vv,sv],.int .i64 step] w fun e w'=>e=.returned (.tuple #[.int .i64 (dcV vals step),.int .i64 (dcE vals step)])∧w.grownBy w' none:=by
 have hn:NumOK (vals.getD 0 (0,0)).1 (vals.getD 0 (0,0)).2:=by
  have hl:vals.length=1:=by have:=hok.2.2;unfold Cc at this;rw [if_pos rfl] at this;exact this.1
  have:=hok.1
  rw [List.all_eq_true] at this
  have h0:vals.getD 0 (0,0)=vals[0]:=by rw [List.getD_eq_getElem?_getD,List.getElem?_eq_getElem (by omega)];rfl
  have:=this (vals[0]) (List.getElem_mem _)
  rw [←h0] at this
  simpa [Bu] using this
 have hl:vals.length=1:=by have:=hok.2.2;unfold Cc at this;rw [if_pos rfl] at this;exact this.1
 obtain ⟨E,hE⟩:∃ E,E=dcE vals step:=⟨_,rfl⟩
 obtain ⟨V,hV⟩:∃ V,V=dcV vals step:=⟨_,rfl⟩
 rw [←hE,←hV]
 unfold dcE at hE
 unfold dcV at hV
 have HVE:=Ac hE
 have HVV:=Ac hV
 clear hE hV
 have HWV:=fun (W:World) (hg:w.grownBy W none)=>Ie W 1 vv sv vals steps (hv.more hg) (hs.more hg)
 have hd:decide (Di 1 vals steps)=true:=decide_eq_true hok
 rw [hd] at HWV
 obtain ⟨Av,cv,rfl,_,_,_,hvc⟩:=id hv
 obtain ⟨b,o,hA,hv3⟩:=hvc (by omega)
 subst hA
 obtain ⟨q0,q1⟩:=hv3 0 (by omega)
 obtain ⟨As,cs,rfl,_,_⟩:=hs.ctor
 rw [hl] at *
 clear hvc hv3 hs hd hok hl
 generalize vals.getD 0 (0,0)=p at *
 obtain ⟨m,e⟩:=p
 simp only [Nat.zero_mul,Nat.add_zero] at hn q0 q1 HVE HVV
 have gw:=Af w (.cells #[.int .i64 1,.slice (some ⟨b,o,none⟩) 1 cv,.slice As steps.length cs] 85) none
 have hB:=Blk.new w #[.int .i64 1,.slice (some ⟨b,o,none⟩) 1 cv,.slice As steps.length cs] 85
 have HW:=Ac (HWV _ gw)
 have HN:=Ac hn
 have q0:=Aj gw q0 (by simp)
 have q1:=Aj gw q1 (by simp)
 have m0:=hB.cell 0
 have m1:=hB.cell 1
 have m2:=hB.cell 2
 simp only [List.getElem?_toArray,List.getElem?_cons_zero,List.getElem?_cons_succ] at m0 m1 m2
 have HGW:=Ac gw
 clear HWV hn gw
 go_enter Tryz.func72,Tryz.ntmps72
 go_wp2_with fail
 generalize w.alloc (.cells #[.int .i64 1,.slice (some ⟨b,o,none⟩) 1 cv,.slice As steps.length cs] 85)=wa at *
 generalize w.heap.size=s at *
 refine HW.out.mono ?_
 rintro e' w1 ⟨rfl,hg1⟩
 have q0:=Aj hg1 q0 (by simp)
 have q1:=Aj hg1 q1 (by simp)
 have m0:=Aj hg1 m0 (by simp)
 have m1:=Aj hg1 m1 (by simp)
 have m2:=Aj hg1 m2 (by simp)
 have HG1:=Ac (Ae HGW.out hg1)
 clear hg1 hB HW
 by_cases h1:step<0
 ·have HE:=Ac (And.intro (HVE.out.trans (if_pos (.inl h1))) (HVV.out.trans (if_pos (.inl h1))))
  go_wp2_with fail
  go_ret2
  rw [HE.out.1,HE.out.2]
  exact ⟨rfl,HG1.out⟩
 ·by_cases h2:1000000000<step
  ·have HE:=Ac (And.intro (HVE.out.trans (if_pos (.inr h2))) (HVV.out.trans (if_pos (.inr h2))))
   go_wp2_with fail
   go_ret2
   rw [HE.out.1,HE.out.2]
   exact ⟨rfl,HG1.out⟩
  ·have HE:=Ac (And.intro (HVE.out.trans (if_neg (fun h=>h.elim h1 h2))) (HVV.out.trans (if_neg (fun h=>h.elim h1 h2))))
   go_wp2_with fail
   refine (Rb w1 m e HN.out).mono ?_
   rintro e' w2 ⟨b2,rfl,hr2,hb2,hg2⟩
   have HR2:=Ac hr2
   have HG2:=Ac (Ae HG1.out hg2)
   have HB2:=Ac (Nat.le_trans HG1.out.size hb2)
   clear q0 q1 m0 m1 m2 hr2 hb2 hg2
   go_wp2_with fail
   refine (F7 w2 1000000000 1 (by omega) (by omega) (by omega) (by omega) (by omega)).mono ?_
   rintro e' w3 ⟨b3,rfl,hr3,hb3,hg3⟩
   have HR3:=Ac hr3
   have HG3:=Ac hg3
   clear hr3 hb3 hg3
   go_wp2_with fail
   refine (Gl w3 b2 b2 b3 _ _ _ (HR2.out.more HG3.out) (HR2.out.more HG3.out) HR3.out 3 (by omega) (Ba HN.out) (by refine LimQ.divInt (by omega) ?_ ?_<;>exact Nat.le_trans (Hv (by decide)) (by omega))).mono ?_
   rintro e' w4 ⟨rfl,hr4,hg4⟩
   have HR4:=Ac hr4
   have HG4:=Ac (Aw (Ae HG2.out HG3.out) hg4 HB2.out)
   have hlq:LimQ (numQ m e*(1000000000 /. 1)) 1099511627776:=(LimQ.mul (Ba HN.out) (show LimQ ((1000000000:Int) /. 1) 3 from by refine LimQ.divInt (by omega) ?_ ?_<;>exact Nat.le_trans (Hv (by decide)) (by omega))).mono (by omega)
   have HLQ:=Ac hlq
   clear hr4 hg4 hlq
   go_wp2_with fail
   refine (E7 w4 b2 _ HR4.out HLQ.out).mono ?_
   rintro e' w5 ⟨v1,v2,rfl,hn1,hn2,_,_,hg5⟩
   obtain ⟨A1,n1,c1,rfl⟩:=hn1.ctor
   obtain ⟨A2,n2,c2,rfl⟩:=hn2.ctor
   have HN1:=Ac hn1
   have HN2:=Ac hn2
   have HG5:=Ac (Ae HG4.out hg5)
   clear hn1 hn2 hg5
   go_wp2_with fail
   refine (Rq w5 _ _ _ _ _ _ HN1.out HN2.out).mono ?_
   rintro e' w6 ⟨rfl,hg6⟩
   go_wp2_with fail
   go_ret2
   rw [HE.out.1,HE.out.2]
   exact ⟨rfl,Ae HG5.out hg6⟩
end
end Go.Proofs.YtmfmfpmkgmkgiaaGreatDoor
