/- Recs SumE SumF. -/
import Derived.Test.YtckbiimikeiejaaGreatDoorMaz
import Derived.Test.YtckbiimikeiejaaGreatDoorMao
import Derived.Test.YtckbiimikeiejaaGreatDoorMba
import Derived.Test.YtckbiimikeiejaaGreatDoorMaj
import Derived.Test.YtckbiimikeiejaaGreatDoorMak
import Derived.Lib.SlKeysI
set_option linter.unusedVariables false
set_option linter.unusedSimpArgs false
set_option maxHeartbeats 40000000
namespace Go.Proofs.YtckbiimikeiejaaGreatDoor
section
open Go.RowKit Go.Maps
open Rat
def RecR {α:Type} (k:Nat) (R:List Value→α→Prop) (xs:List Value):List α→Prop
 | []=>xs=[]
 | a::L=>∃ cs rest,xs=cs++rest∧cs.length=k∧R cs a∧RecR k R rest L
theorem RecR.nil {α:Type} (k:Nat) (R:List Value→α→Prop):RecR k R [] []:=rfl
theorem RecR.snoc {α:Type} {k:Nat} {R:List Value→α→Prop} {ys:List Value} {a:α} (hl:ys.length=k) (ha:R ys a):∀ {xs:List Value} {L:List α},RecR k R xs L→RecR k R (xs++ys) (L++[a])
 | xs,[],h=>by
  have:xs=[]:=h
  subst this
  exact ⟨ys,[],by simp,hl,ha,rfl⟩
 | xs,t::L,⟨cs,rest,e,h1,h2,h3⟩=>⟨cs,rest++ys,by rw [e,List.append_assoc],h1,h2,h3.snoc hl ha⟩
theorem RecR.imp {α:Type} {k:Nat} {R R':List Value→α→Prop} (hi:∀ cs a,R cs a→R' cs a):∀ {xs:List Value} {L:List α},RecR k R xs L→RecR k R' xs L
 | _,[],h=>h
 | _,_::_,⟨cs,rest,e,h1,h2,h3⟩=>⟨cs,rest,e,h1,hi _ _ h2,h3.imp hi⟩
theorem RecR.length {α:Type} {k:Nat} {R:List Value→α→Prop}:∀ {xs:List Value} {L:List α},RecR k R xs L→xs.length=L.length*k
 | _,[],h=>by have:_=[]:=h;subst this;simp
 | _,_::L,⟨cs,rest,e,h1,h2,h3⟩=>by rw [e,List.length_append,h3.length,h1,List.length_cons,Nat.succ_mul];omega
theorem RecR.at {α:Type} {k:Nat} {R:List Value→α→Prop}:∀ {xs:List Value} {L:List α},RecR k R xs L→∀ i (hi:i<L.length),∃ cs,R cs L[i]∧cs.length=k∧∀ j,j<k→xs[i*k+j]? = cs[j]?
 | _,[],_,i,hi=>by simp at hi
 | _,a::L,⟨cs,rest,e,h1,h2,h3⟩,0,hi=>⟨cs,h2,h1,fun j hj=>by rw [e,Nat.zero_mul,Nat.zero_add,List.getElem?_append_left (by omega)]⟩
 | _,a::L,⟨cs,rest,e,h1,h2,h3⟩,i+1,hi=>by
  obtain ⟨cs',h4,h5,h6⟩:=h3.at i (by simpa using hi)
  refine ⟨cs',h4,h5,fun j hj=>?_⟩
  rw [e,List.getElem?_append_right (by rw [h1,Nat.succ_mul];omega),h1,←h6 j hj]
  congr 1
  rw [Nat.succ_mul];omega
theorem OwnQ.recs {α:Type} {w:World} {base:Nat} {e:TypeId} {k:Nat} {v:Value} {n:Nat} {xs:List Value} {R:List Value→α→Prop} {L:List α} (h:OwnQ w base e k v n xs) (hi:RecR k R xs L) (hn:n=L.length) :
  ∃ A c,v=.slice A L.length c∧L.length≤c∧c≤9223372036854775807∧(0<L.length→∃ b,A=some ⟨b,0,none⟩∧∀ i (hi:i<L.length),∃ cs,R cs L[i]∧cs.length=k∧∀ j,j<k→w.cell? ⟨b,i*k+j,none⟩=cs[j]?):=by
 subst hn
 have hc:∀ {g:Nat},v.ownBlock=some g→∀ j u,xs[j]? = some u→w.cell? ((⟨g,0,none⟩:Addr).add j)=some u:=fun hg=>h.1.cells hg
 rcases h.1.2 with ⟨rfl,hn0⟩ | ⟨g,cap,cur,rfl,_,_,hnc,hcm,_⟩
 ·exact ⟨none,0,by rw [hn0],by rw [hn0];omega,by omega,fun h=>by rw [hn0] at h;omega⟩
 ·refine ⟨some ⟨g,0,none⟩,cap,rfl,hnc,by simp only [maxLen] at hcm;omega,fun _=>⟨g,rfl,fun i hil=>?_⟩⟩
  obtain ⟨cs,h1,h2,h3⟩:=hi.at i hil
  refine ⟨cs,h1,h2,fun j hj=>?_⟩
  have h4:=h3 j hj
  have hcj:cs[j]? = some (cs[j]'(by omega)):=List.getElem?_eq_getElem _
  rw [hcj] at h4 ⊢
  have:=hc (g:=g) rfl _ _ h4
  rwa [Me] at this
/-! ### cells -/
def Mf (p:Int × Int):CellP:=⟨p.1,decide (p.2<0),digs p.2⟩
def CellV (w:World) (cs:List Value) (p:Int × Int):Prop:=I64 p.1∧∃ v,cs=[.int .i64 p.1,.bool (decide (p.2<0)),v]∧Nums w v (digs p.2)
theorem CellV.row {w w':World} {cs:List Value} {p:Int × Int} {row:Option Nat} (h:CellV w cs p) (hg:w.grownBy w' row) (hp:∀ r,row=some r→Dt w r):CellV w' cs p:=by
 obtain ⟨h0,v,h1,h2⟩:=h;exact ⟨h0,v,h1,h2.row hg hp⟩
theorem CellRow.apart {w w':World} {v:Value} {l:List CellP} {row:Option Nat} (h:CellRow w v l) (hg:w.grownBy w' row) (hp:∀ r,row=some r→Dt w r) (hne:∀ r,row=some r→v.ownBlock≠some r):CellRow w' v l:=by
 obtain ⟨A,c,rfl,h1,h2,h4⟩:=h
 refine ⟨A,c,rfl,h1,h2,fun hpos=>?_⟩
 obtain ⟨b,o,rfl,hc⟩:=h4 hpos
 have hb:some b≠row:=by
  intro e
  exact hne b e.symm rfl
 refine ⟨b,o,rfl,fun i hi=>?_⟩
 obtain ⟨u,hI,c0,c1,c2,hn⟩:=hc i hi
 exact ⟨u,hI,Aj hg c0 hb,Aj hg c1 hb,Aj hg c2 hb,hn.row hg hp⟩
end
section
open Go.RowKit Go.Maps Go.Sort Go.Shelf
open Rat
theorem Zz (m:Nat):AnyZI.SortsIn Tryz.prog Tryz.sortedA_ren Fence.wide m :=
  ⟨fun blk off cap ss W hH hblk hsz=>callsIn_wide.2 (AnyM.slices_Sort_int Tryz.sortA blk off cap ss W hH hblk hsz),
   fun p cap W=>callsIn_wide.2 (AnyM.slices_Sort_int_none Tryz.sortA p cap W)⟩
theorem Z8 {H:Type} {P:Program} {k:TypeId} {R:Value→Option (DataW H × List MemPlace)} {w:World} {b n:Nat} {D0:DataW H} (hown:w.ownsMap P k R b n D0) (K:Keyed P k) (hk:P.underlying k=some (.int .i64)) :
  (intKeys D0).Nodup∧∀ x,x∈intKeys D0↔Maps.has D0 (.int .i64 x)=true:=by
 obtain ⟨es,hD,hpw,_⟩:=hown.entries K
 obtain ⟨es',hD',hko⟩:=hown.keysOf
 obtain rfl:es=es':=by rw [hD] at hD';simpa using hD'
 subst hD
 have hkk:∀ p∈es,∃ x,p.1=.int .i64 x:=fun p hp=>by obtain ⟨v,hv⟩:=hko p hp;obtain ⟨x,_,hx,_⟩:=Maps.keyOf_i64 hk hv;exact ⟨x,hx⟩
 constructor
 ·show (es.map fun p=>Go.intOf p.1).Nodup
  refine List.pairwise_map.2 (hpw.imp_of_mem fun {p q} hp' hq' hne e=>hne ?_)
  obtain ⟨a,ha⟩:=hkk p hp'
  obtain ⟨b,hb⟩:=hkk q hq'
  rw [ha,hb] at e ⊢
  exact congrArg _ e
 ·intro x
  rw [has_eq,List.any_eq_true]
  show x∈es.map (fun p=>Go.intOf p.1)↔_
  rw [List.mem_map]
  constructor
  ·rintro ⟨p,hp',rfl⟩
   obtain ⟨a,ha⟩:=hkk p hp'
   exact ⟨p,hp',by rw [ha];simp [Lit.sameKey,Go.intOf]⟩
  ·rintro ⟨p,hp',hs⟩
   obtain ⟨a,ha⟩:=hkk p hp'
   rw [ha] at hs
   exact ⟨p,hp',by rw [ha];simpa [Lit.sameKey,Go.intOf] using hs⟩
theorem Sx {l:List Int} (h:l.Nodup):Fl (l.mergeSort (fun x y=>decide (x≤y))):=by
 have h1:=List.pairwise_mergeSort (le:=fun x y:Int=>decide (x≤y)) (fun a b c h1 h2=>by simp only [decide_eq_true_eq] at *;omega) (fun a b=>by simp only [Bool.or_eq_true,decide_eq_true_eq];omega) l
 have h2:(l.mergeSort (fun x y=>decide (x≤y))).Nodup:=(List.mergeSort_perm l _).nodup_iff.2 h
 unfold Fl
 refine (h1.and h2).imp fun {a b} hab=>?_
 have:=hab.1
 have hne:=hab.2
 simp only [decide_eq_true_eq] at this
 omega
theorem R6 (w:World) (mb N:Nat) (F:Int→Option Nat) (h:MapB w mb N F) (hN:N≤1000000) :
  Calls Tryz.prog 222 #[.func (.func 263) #[] #[.pointer (some ⟨w.heap.size,0,none⟩)]] (w.alloc (.cells #[.map (some mb)] 129)) fun e w'=>∃ v S,e=.returned v∧Fl S∧(∀ c,c∈S↔(F c).isSome=true)∧Row w' v (ints S)∧S.length≤N∧w.grownBy w' none:=by
 obtain ⟨h0,D,hown,h2⟩:=h
 have hsz:=hown.size_le
 refine (callsIn_wide (n:=5)).1 ?_
 have hbl:=hown.lt
 have hseq:SeqGives Fence.wide 2 Tryz.prog 263 #[.pointer (some ⟨w.heap.size,0,none⟩)] encZ (fun ss=>ss.Perm (intKeys D)) (Maps.size D) (w.alloc (.cells #[.map (some mb)] 129)) :=
  AnyZI.keys_gives (ρ:=Tryz.keysA_ren) { Tryz.keysA with } Fence.wide _ trivial rfl (by omega) w.heap.size mb N D _ (by simp) (by simp) (by
   obtain ⟨es,clock,hb,Ft,hs,hD⟩:=hown
   exact ⟨es,clock,(Below.heap_alloc _ _ mb hbl).trans hb,Ft,hs,hD⟩)
 have cS:=AnyZI.sorted_in Tryz.sortedA Fence.wide 5 trivial trivial trivial trivial rfl (by omega) (Zz _) (enters_of Tryz.func262 (by kernel_rfl) rfl) 263 #[.pointer (some ⟨w.heap.size,0,none⟩)] trivial (enters_of Tryz.func263 (by kernel_rfl) rfl) _ _ (by unfold maxLen;omega) (by omega) _ hseq
 change CallsIn _ _ Tryz.prog 222 _ _ _ at cS
 refine cS.mono ?_
 rintro e w' ⟨v,ss,rfl,hS,hrow,hnil,hb⟩
 obtain ⟨hnd,hmem⟩:=Z8 hown lawI Tryz.underlying3
 have hnd2:ss.Nodup:=hS.nodup_iff.2 hnd
 have hms:∀ c,c∈ss↔(F c).isSome=true:=fun c=>by
  rw [hS.mem_iff,hmem]
  by_cases hI:I64 c
  ·rw [(h2 c hI).1]
  ·have hF:F c=none:=by
    cases hF:F c with
    | none=>rfl
    | some b=>exact absurd (h0 c b hF) hI
   have hnot:¬ Maps.has D (.int .i64 c)=true:=fun hh=>hI (Z7 (intKeys_wf hown Tryz.underlying3 c ((hmem c).2 hh)))
   rw [hF]
   constructor
   ·intro hh;exact absurd hh hnot
   ·intro hh;cases hh
 refine ⟨v,ss.mergeSort (fun x y=>decide (x≤y)),rfl,Sx hnd2,fun c=>by rw [List.mem_mergeSort];exact hms c,?_,?_,?_⟩
 ·have:=E5 hrow
  exact this
 ·rw [List.length_mergeSort]
  have h3:ss.length=(intKeys D).length:=hS.length_eq
  have h4:(intKeys D).length=Maps.size D:=by
   obtain ⟨es,hD,_,_⟩:=hown.entries lawI
   rw [hD];simp [intKeys,Maps.size]
  omega
 ·exact Ae (Af w _ none) (Hk hb)
theorem Tu (w:World) (mo:Option Nat):Calls Tryz.prog 223 #[.map mo] w fun e w'=>e=.returned (.func (.func 263) #[] #[.pointer (some ⟨w.heap.size,0,none⟩)])∧w'=w.alloc (.cells #[.map mo] 129) :=
 (callsIn_wide (n:=5)).1 (AnyZI.keys_in Tryz.keysA Fence.wide 5 trivial rfl mo w)
theorem M7 (w:World) :
  Calls Tryz.prog 222 #[.func (.func 263) #[] #[.pointer (some ⟨w.heap.size,0,none⟩)]] (w.alloc (.cells #[.map none] 129)) fun e w'=>e=.returned (.slice none 0 0)∧w.grownBy w' none:=by
 refine (callsIn_wide (n:=5)).1 ?_
 have hseq:SeqGives Fence.wide 2 Tryz.prog 263 #[.pointer (some ⟨w.heap.size,0,none⟩)] encZ (fun ss:List Int=>ss=[]) 0 (w.alloc (.cells #[.map none] 129)) :=
  AnyZI.keys_gives_nil (ρ:=Tryz.keysA_ren) { Tryz.keysA with } Fence.wide _ trivial rfl w.heap.size _ (by simp) (by simp)
 have cS:=AnyZI.sorted_in Tryz.sortedA Fence.wide 5 trivial trivial trivial trivial rfl (by omega) (Zz _) (enters_of Tryz.func262 (by kernel_rfl) rfl) 263 #[.pointer (some ⟨w.heap.size,0,none⟩)] trivial (enters_of Tryz.func263 (by kernel_rfl) rfl) _ 0 (Nat.zero_le _) (by omega) _ hseq
 change CallsIn _ _ Tryz.prog 222 _ _ _ at cS
 refine cS.mono ?_
 rintro e w' ⟨v,ss,rfl,rfl,hrow,hnil,hb⟩
 obtain rfl:v=.slice none 0 0:=hnil.2 rfl
 exact ⟨rfl,Ae (Af w _ none) (Hk hb)⟩
theorem Ud (w:World) (o:Option Nat) (N:Nat) (F:Int→Option Nat) (h:∀ mb,o=some mb→MapB w mb N F) (h0:o=none→∀ c,F c=none) (hN:N≤1000000) :
  Calls Tryz.prog 222 #[.func (.func 263) #[] #[.pointer (some ⟨w.heap.size,0,none⟩)]] (w.alloc (.cells #[.map o] 129)) fun e w'=>∃ v S,e=.returned v∧Fl S∧(∀ c,c∈S↔(F c).isSome=true)∧Row w' v (ints S)∧S.length≤N∧w.grownBy w' none:=by
 cases o with
 | none =>
  refine (M7 w).mono ?_
  rintro e w' ⟨rfl,hg⟩
  exact ⟨_,[],rfl,List.Pairwise.nil,fun c=>by rw [h0 rfl c];simp,Row.nil _,by simp,hg⟩
 | some mb=>exact R6 w mb N F (h mb rfl) hN
end
section
open Go.RowKit Go.Maps
open Rat
theorem Xh {w:World} {A:Option Addr} {n c:Nat} {S:List Int} (h:Row w (.slice A n c) (ints S)) {k:Nat} (hk:k<S.length):∃ b o,A=some ⟨b,o,none⟩∧w.cell? ⟨b,o+k,none⟩=some (.int .i64 (S.getD k 0)):=by
 obtain ⟨A',c',e,h1,h2,h3⟩:=h
 rw [D5] at *
 injection e with e1 e2 e3
 subst e1
 rcases h3 with ⟨h0,_⟩ | ⟨b,o,rfl,hc⟩
 ·have:=congrArg List.length h0;rw [D5] at this;exact absurd (show S.length=0 from this) (by omega)
 ·exact ⟨b,o,rfl,(hc k hk).trans (J5 S k hk)⟩
theorem Yh:(Tryz.prog.info? 55).map (fun i=>(i.zero,i.size,i.bytes))=some (some (.agg #[.int .i64 0,.bool false,.slice none 0 0]),3,40):=by kernel_rfl
theorem Qk:NoD (Value.agg #[.int .i64 0,.bool false,.slice none 0 0]).cells.toList:=by
 intro u hu n
 simp [Value.cells] at hu
 rcases hu with rfl | rfl | rfl<;>simp
theorem Ox (c:Int) (b:Bool) (A:Option Addr) (n k:Nat):NoD (#[Value.int .i64 c,.bool b,.slice A n k]).toList:=by
 intro u hu n
 simp at hu
 rcases hu with rfl | rfl | rfl<;>simp
theorem Om {q:Rat} {m a b:Nat} (hq:LimQ q a) (hm:lim (m:Int)≤b):lim (Fi q m)≤a+b:=by
 unfold Fi
 exact Nat.le_trans (Ea (D7 _ _)) (Nat.le_trans (C9 _ _) (by have:=hq.1;omega))
def Stab (P:World→Prop) (w:World):Prop:=∀ w',StayR w w'→P w'
theorem Stab.here {P:World→Prop} {w:World} (h:Stab P w):P w:=h w (StayR.refl w)
theorem Stab.step {P:World→Prop} {w w':World} (h:Stab P w) (hs:StayR w w'):Stab P w':=fun w'' k=>h w'' (hs.trans k)
theorem Stab.more {P:World→Prop} {w w':World} (h:Stab P w) (hg:w.grownBy w' none):Stab P w':=h.step (StayR.none hg)
theorem OwnQ.cellStab {w:World} {base:Nat} {e:TypeId} {v:Value} {n:Nat} {xs:List Value} {L:List (Int × Int)} (h:OwnQ w base e 3 v n xs) (hi:RecR 3 (CellV w) xs L) (hn:n=L.length):Stab (fun w'=>CellRow w' v (L.map Mf)) w:=by
 intro w' hst
 obtain ⟨A,c,rfl,h1,h2,h3⟩:=h.recs hi hn
 refine ⟨A,c,by simp,by simpa using h1,h2,fun hp=>?_⟩
 have hp':0<L.length:=by simpa using hp
 obtain ⟨b,rfl,h4⟩:=h3 hp'
 obtain ⟨cs0,⟨_,u0,rfl,_⟩,_,hc0⟩:=h4 0 hp'
 have hz:w.cell? ⟨b,0,none⟩=some (.int .i64 L[0].1):=by have:=hc0 0 (by omega);rw [Nat.zero_mul] at this;exact this
 refine ⟨b,0,rfl,fun i hi=>?_⟩
 have hil:i<L.length:=by simpa using hi
 obtain ⟨cs,⟨h0,u,rfl,hn⟩,_,hc⟩:=h4 i hil
 have e:(L.map Mf).getD i Br=Mf L[i]:=by rw [List.getD_eq_getElem?_getD,List.getElem?_map,List.getElem?_eq_getElem hil];rfl
 rw [e]
 refine ⟨u,h0,?_,?_,?_,hst.nums _ _ hn⟩
 ·rw [Nat.zero_add];exact hst.ints b _ _ _ hz (hc 0 (by omega))
 ·rw [Nat.zero_add];exact hst.ints b _ _ _ hz (hc 1 (by omega))
 ·rw [Nat.zero_add];exact hst.ints b _ _ _ hz (hc 2 (by omega))
set_option maxRecDepth 100000 in
theorem Im (w:World) (base rb n r kk K bm m:Nat) (L:List StampP) (hS:SumsS w base rb n L) (hrn:r<n) (hk5:kk<5) (hL:LimL L K) (hkb:L.length*(K+2)+1≤200000000) (hll:L.length≤1000000) (hm:IntB w bm (m:Nat)) (hml:lim (m:Int)≤200000000) :
  Calls Tryz.prog 140 #[.pointer (some ⟨rb,r*5,none⟩),.int .i64 (kk:Int),.pointer (some ⟨bm,0,none⟩)] w fun e w'=>∃ v,e=.returned v∧Stab (fun w'=>CellRow w' v ((J0 L (r*5+kk) m).map Mf)) w'∧(J0 L (r*5+kk) m).length≤L.length∧w.grownBy w' none:=by
 obtain ⟨ms,E,hms,hE,hsnd⟩:=hS
 have hil:r*5+kk<ms.length:=by omega
 have i0:(0:Int)≤(kk:Int):=by omega
 have i1:(kk:Int)<5:=by omega
 obtain ⟨om,hmo⟩:∃ o,ms[r*5+kk]? = some o:=⟨_,List.getElem?_eq_getElem hil⟩
 have hcell:=hE.cell hmo
 have HE:=Ac hE
 have HSND:=Ac hsnd
 have HL:=Ac hL
 have HKB:=Ac hkb
 have HM:=Ac hm
 have HML:=Ac hml
 have HMO:=Ac hmo
 clear hE hsnd hL hkb hm hml hmo
 go_enter Tryz.func140,Tryz.ntmps140
 go_wp2_with fail
 refine (Tu w om).mono ?_
 rintro e w0 ⟨rfl,rfl⟩
 go_wp2_with fail
 refine (Ud w om L.length (fun c=>(E (r*5+kk) c).map Prod.fst) (fun mb h=>by subst h;exact (HE.out.maps _ _ HMO.out).2) (fun h c=>by subst h;rw [HE.out.nil _ c HMO.out];rfl) hll).mono ?_
 rintro e w1 ⟨v,S,rfl,hrise,hmem,hrow,hslen,hg1⟩
 obtain ⟨A,c,rfl,_,_,_⟩:=id hrow
 rw [D5] at *
 have HCOLS:Hid (S=G2 L (r*5+kk)):=Ac (A0b hrise fun c=>by
  rw [hmem c]
  have h5:=HSND.out (r*5+kk) c
  show ((E (r*5+kk) c).map Prod.fst).isSome=true↔_
  cases hx:E (r*5+kk) c with
  | none =>
   rw [hx] at h5
   split at h5
   ·simp at h5
   ·rename_i hh;simp [hh]
  | some bq =>
   rw [hx] at h5
   split at h5
   ·rename_i hh;simp [hh]
   ·simp at h5)
 have HMEM:=Ac hmem
 have HROW:=Ac hrow
 have HG1:=Ac hg1
 clear hrise hmem hrow hg1 hcell
 go_wp2_with fail
 go_loopw [7,20] (fun bv iv wr=>∃ k cnt:Nat,k≤S.length∧iv=.int .i64 k∧cnt≤k∧w1.grownBy wr none∧Hid (∃ xs,OwnQ wr w1.heap.size 55 3 bv cnt xs∧RecR 3 (CellV wr) xs ((S.take k).filterMap (F9 L (r*5+kk) m))∧cnt=((S.take k).filterMap (F9 L (r*5+kk) m)).length)) (fun _ iv _=>(S.length-intOf iv).toNat)
 case atStart=>exact ⟨0,0,by omega,rfl,by omega,Al _ _,Ac ⟨[],OwnQ.nil _ _ _ _,rfl,rfl⟩⟩
 case round =>
  obtain ⟨k,cnt,hk,rfl,hck,hg,hown⟩:=hrel
  by_cases hlt:k<S.length
  ·obtain ⟨b,o,rfl,u0⟩:=Xh (HROW.out) hlt
   have u0:=Aj hg u0 (by simp)
   have hcs:(E (r*5+kk) (S.getD k 0)).isSome=true:=by
    have:=(HMEM.out (S.getD k 0)).1 (by rw [List.getD_eq_getElem?_getD,List.getElem?_eq_getElem hlt];exact List.getElem_mem _)
    have h2:((E (r*5+kk) (S.getD k 0)).map Prod.fst).isSome=true:=this
    rwa [Option.isSome_map] at h2
   have htake:(S.take (k+1)).filterMap (F9 L (r*5+kk) m)=(S.take k).filterMap (F9 L (r*5+kk) m)++(F9 L (r*5+kk) m (S.getD k 0)).toList:=by
    rw [List.take_add_one,List.getD_eq_getElem?_getD,List.getElem?_eq_getElem hlt,List.filterMap_append]
    simp only [Option.toList_some,Option.getD_some]
    cases hx:F9 L (r*5+kk) m S[k]<;>simp [hx]
   generalize S.getD k 0=c at *
   obtain ⟨bq,hEc⟩:=Option.isSome_iff_exists.1 hcs
   obtain ⟨b2,q⟩:=bq
   have hq:=Ld HSND.out hEc
   rw [hq] at hEc
   have hom:∃ mb,om=some mb:=by
    cases om with
    | none=>rw [HE.out.nil _ c HMO.out] at hEc;cases hEc
    | some mb=>exact ⟨mb,rfl⟩
   obtain ⟨mb,rfl⟩:=hom
   have gw:=Ae HG1.out hg
   have hcell:=Aj gw (HE.out.cell HMO.out) (by simp)
   have hmap:=((HE.out.more gw).maps _ _ HMO.out).2
   have hIc:I64 c:=hmap.1 c b2 (show (E (r*5+kk) c).map Prod.fst=_ by rw [hEc];rfl)
   have hrat:=((HE.out.more gw).rats _ _ _ _ hEc).2
   have hF:(E (r*5+kk) c).map Prod.fst=some b2:=by rw [hEc];rfl
   have HRAT:=Ac hrat
   have HTAKE:=Ac htake
   have HGW:=Ac gw
   have HLT:=Ac hlt
   have HEC:=Ac hEc
   have HCK:=Ac hck
   clear hrat htake gw hcs hq hEc hck
   go_wp2_with (first
    | (at_lookup;refine P6 rfl _ _ rfl c hIc hmap rfl rfl (.pointer (some ⟨b2,0,none⟩)) (by rw [hF];rfl) ?_)
    | fail)
   refine (Rp wr b2 _ HRAT.out).mono ?_
   rintro e w' ⟨rfl,rfl⟩
   by_cases hz:accQ L (r*5+kk) c=0
   ·have t0:((accQ L (r*5+kk) c).num.sign != 0)=false:=by rw [hz];rfl
    have HZ:Hid (F9 L (r*5+kk) m c=none):=Ac (by unfold F9;rw [if_pos hz])
    clear hz
    go_wp2_with fail
    have hlt:=HLT.out
    have hck:=HCK.out
    exact ⟨⟨k+1,cnt,by omega,by go_num,by omega,hg,Ac (by rw [HTAKE.out,HZ.out,Option.toList_none,List.append_nil];exact hown.out)⟩,by simp [intOf];omega⟩
   ·have hns:(accQ L (r*5+kk) c).num≠0:=fun e=>hz (Rat.num_eq_zero.1 e)
    have t0:((accQ L (r*5+kk) c).num.sign != 0)=true:=by rw [bne_iff_ne];exact fun e=>hns (Int.sign_eq_zero_iff_zero.1 e)
    have HZ:Hid (F9 L (r*5+kk) m c=some (c,Fi (accQ L (r*5+kk) c) m)):=Ac (by unfold F9;rw [if_neg hz])
    have hla:=(Kr HL.out (r*5+kk) c).mono HKB.out
    have HLW:=Ac (Om hla HML.out)
    have HLA:=Ac hla
    have HGX:=Ac hg
    have HIC:=Ac hIc
    clear hz hns hla hmap hcell hg
    go_wp2_with fail
    refine (Mr wr b2 bm _ _ HRAT.out (HM.out.more HGW.out) HLA.out HML.out).mono ?_
    rintro e w2 ⟨b3,rfl,hi3,hb3,hg3⟩
    have hi3:IntB w2 b3 (Fi (accQ L (r*5+kk) c) m):=hi3
    generalize hzz:Fi (accQ L (r*5+kk) c) m=z at *
    clear hzz
    have HI3:=Ac hi3
    have HG3:=Ac hg3
    clear hi3 hb3 hg3
    go_wp2_with fail
    refine (E6 w2 b3 0 z HI3.out.at (Nat.le_trans HLW.out (by omega))).mono ?_
    rintro e w3 ⟨v3,rfl,hn3,hf3,hg4⟩
    obtain ⟨A3,n3,c3,rfl⟩:=hn3.ctor
    have HN3:=Ac hn3
    have HG4:=Ac (Ae HG3.out hg4)
    obtain ⟨xs,ho1,ho2,ho3⟩:=hown.out
    have HO1:=Ac (ho1.more HG4.out)
    have HO2:=Ac (ho2.imp (R':=CellV w3) fun cs a h=>h.row HG4.out (fun r h=>by cases h))
    have HO3:=Ac ho3
    have hsw:w1.heap.size≤w3.heap.size:=(Ae HGX.out HG4.out).size
    clear hn3 hf3 hg4 ho1 ho2 ho3 hown
    go_wp2_with (first
     | (at_builtin;refine Cu w1.heap.size rfl (.tmp 35) (.tmp 42) 50 55 (.agg #[.int .i64 0,.bool false,.slice none 0 0]) 3 40 rfl Tryz.underlying50 Yh rfl (by omega) (by omega) u7 cnt xs #[.int .i64 c,.bool (decide (z<0)),.slice A3 n3 c3] (by rfl) HO1.out (by rfl) (by rfl) (by simp [Value.oneCell']) (by have:=HCK.out;omega) (by omega) (Ox _ _ _ _ _) Qk ?_;intro g cap w5 hown5 hg5;have H5:=Ac (And.intro hown5 hg5);clear hown5 hg5)
     | fail)
    have hlt:=HLT.out
    have hck:=HCK.out
    have hpl:∀ r,u7.ownBlock=some r→Dt (w3.alloc (.cells #[.int .i64 c,.bool (decide (z<0)),.slice A3 n3 c3] 55)) r:=fun r h=>(HO1.out.more (Af _ _ _)).2 r h
    refine ⟨⟨k+1,cnt+1,by omega,by go_num,by omega,Gt (Ae (Ae HGX.out HG4.out) (Af _ _ _)) (HO1.out.more (Af _ _ _)) H5.out.2,Ac ⟨_,H5.out.1,?_,?_⟩⟩,by simp [intOf];omega⟩
    ·rw [HTAKE.out,HZ.out]
     exact RecR.snoc (k:=3) (ys:=[.int .i64 c,.bool (decide (z<0)),.slice A3 n3 c3]) (a:=(c,z)) rfl (show CellV w5 _ (c,z) from ⟨HIC.out,.slice A3 n3 c3,rfl,((HN3.out.more (Af _ _ _)).row H5.out.2 hpl)⟩) (HO2.out.imp fun cs a h=>(h.row (Af _ _ none) (fun r h=>by cases h)).row H5.out.2 hpl)
    ·rw [HTAKE.out,HZ.out,List.length_append,←HO3.out];rfl
  ·obtain rfl:k=S.length:=by omega
   obtain ⟨xs,h1,h2,h3⟩:=hown.out
   rw [List.take_of_length_le (Nat.le_refl _)] at h2 h3
   have HCR:=Ac (OwnQ.cellStab h1 h2 h3)
   have HC:=HCOLS
   clear hown h1 h2 h3
   go_wp2_with fail
   go_ret
   refine ⟨_,rfl,?_,?_,Ae HG1.out hg⟩
   ·unfold J0
    rw [←HC.out];exact HCR.out
   ·unfold J0
    rw [←HC.out];exact Nat.le_trans (List.length_filterMap_le _ _) hslen
end
end Go.Proofs.YtckbiimikeiejaaGreatDoor
