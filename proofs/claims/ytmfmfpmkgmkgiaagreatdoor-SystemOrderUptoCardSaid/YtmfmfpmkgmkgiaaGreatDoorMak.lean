/- StA StB StC StD. -/
import Derived.Test.YtmfmfpmkgmkgiaaGreatDoorMah
import Derived.Maps.AppendAt
import Derived.Deep.AppendLies
import Derived.Deep.RegionHeld3
import Derived.Deep.RegionLaw
import Derived.Deep.DrawnRows
set_option linter.unusedVariables false
set_option linter.unusedSimpArgs false
set_option maxHeartbeats 40000000
namespace Go.Proofs.YtmfmfpmkgmkgiaaGreatDoor
section
open Go.RowKit Go.Maps
open Rat
def NoD (l:List Value):Prop:=∀ u∈l,∀ n,u≠.int .u32 n
def OwnQ (w:World) (base:Nat) (e:TypeId) (size:Nat) (v:Value) (n:Nat) (xs:List Value):Prop :=
 w.ownsRow base e size v n xs∧∀ g,v.ownBlock=some g→Dt w g
theorem OwnQ.nil (w:World) (base:Nat) (e:TypeId) (size:Nat):OwnQ w base e size (.slice none 0 0) 0 []:=⟨World.ownsRow_nil _ _ _ _,fun g h=>by simp [Value.ownBlock] at h⟩
theorem C1 {w:World} {g:Nat} {cs:Array Value} {T:TypeId} {fr:Nat × Nat} (h:w.heap[g]? = some (.cells cs T fr)) (hn:NoD cs.toList):Dt w g:=by
 intro o n he
 rw [Ay h] at he
 have:(Value.int .u32 n)∈cs.toList:=by
  obtain ⟨ho,hv⟩:=Array.getElem?_eq_some_iff.1 he
  rw [←hv];simp
 exact hn _ this n rfl
theorem Gb {w:World} {g:Nat} {cs:Array Value} {T:TypeId} {fr:Nat × Nat} (h:w.heap[g]? = some (.cells cs T fr)) (hp:Dt w g):NoD cs.toList:=by
 intro u hu n he
 subst he
 obtain ⟨i,hi,hv⟩:=List.mem_iff_getElem.1 hu
 refine hp i n ?_
 rw [Ay h]
 rw [Array.getElem?_eq_some_iff]
 exact ⟨by simpa using hi,by simpa using hv⟩
theorem NoD.append {l r:List Value} (h:NoD l) (k:NoD r):NoD (l++r):=fun u hu=>by
 rcases List.mem_append.1 hu with hu | hu
 ·exact h u hu
 ·exact k u hu
theorem NoD.zero {z:Array Value} (h:NoD z.toList) (n:Nat):NoD (Builtin.zeroCells z n).toList:=by
 intro u hu
 simp [Builtin.zeroCells] at hu
 obtain ⟨k,hk,hu⟩:=hu
 have hs:0<z.size:=by
  rcases Nat.eq_zero_or_pos z.size with h0 | h0
  ·rw [h0] at hk;omega
  ·exact h0
 rw [getElem!_pos z _ (Nat.mod_lt k hs)] at hu
 exact h u (by rw [←hu];simp)
theorem OwnQ.more {w w':World} {base:Nat} {e:TypeId} {size n:Nat} {v:Value} {xs:List Value} (h:OwnQ w base e size v n xs) (hg:w.grownBy w' none):OwnQ w' base e size v n xs:=by
 refine ⟨h.1.kept hg (by cases v.ownBlock<;>simp),fun g hv=>?_⟩
 have hp:=h.2 g hv
 rcases h.1.2 with ⟨rfl,_⟩ | ⟨g',cap,cur,rfl,_,hh,_⟩
 ·simp [Value.ownBlock] at hv
 ·obtain rfl:g'=g:=by simpa [Value.ownBlock] using hv
  exact C1 (Do hg hh (by simp)) (Gb hh hp)
theorem OwnQ.other {w w':World} {base:Nat} {e:TypeId} {size n r:Nat} {v:Value} {xs:List Value} (h:OwnQ w base e size v n xs) (hg:w.grownBy w' (some r)) (hne:v.ownBlock≠some r):OwnQ w' base e size v n xs:=by
 refine ⟨h.1.kept hg (.inr hne),fun g hv=>?_⟩
 have hp:=h.2 g hv
 rcases h.1.2 with ⟨rfl,_⟩ | ⟨g',cap,cur,rfl,_,hh,_⟩
 ·simp [Value.ownBlock] at hv
 ·obtain rfl:g'=g:=by simpa [Value.ownBlock] using hv
  exact C1 (Do hg hh (fun e=>hne (by rw [hv,e]))) (Gb hh hp)
theorem Pm {P:Program} {w:World} (base:Nat) (t ty e:TypeId) (i:TypeInfo) (z:Value) (size bytes:Nat) (ht:P.underlying t=some (.slice e)) (hi:P.info? e=some i) (hz:i.zero=some z)
  (hsize:i.size=size) (hby:i.bytes=bytes) (hzs:z.cells.size=size) (hsz:0<size)
  (v:Value) (n:Nat) (xs:List Value) (hown:OwnQ w base e size v n xs)
  (a:Addr) (news:List Value) (hl:news.length=size) (hnews:∀ j u,news[j]? = some u→w.cell? (a.add j)=some u) (h1:∀ u∈news,u.oneCell'=true)
  (hbytes:(n+1)*bytes≤140737488355328) (hb0:0<bytes) (hbase:base≤w.heap.size) (hnd:NoD news) (hzd:NoD z.cells.toList) :
  ∃ v' w',(Builtin.append_ #[t,t] ty #[v,.slice (some a) 1 1]).run P w=.ok v' w'∧OwnQ w' base e size v' (n+1) (xs++news)∧w.grownBy w' v.ownBlock∧(v'.ownBlock=v.ownBlock∨v'.ownBlock=some w.heap.size):=by
 have hlen:n+1≤140737488355328:=Nat.le_trans (Nat.le_mul_of_pos_right _ hb0) hbytes
 obtain ⟨v',w',hr,h2,h3,_,h5⟩:=run_append_own_at (P:=P) w base t ty e i z size bytes ht hi hz hsize hby hzs hsz v n xs hown.1 a 1 1 news (by omega) hnews h1 (by simp only [maxLen];omega) hbytes hbase
 refine ⟨v',w',hr,⟨h2,?_⟩,h3,h5⟩
 intro g hg
 subst hsize hby
 rcases hown.1.2 with ⟨rfl,hn0⟩ | ⟨g0,cap,cur,rfl,hbg,hgh,hnc,hcm,hcs,htake⟩
 ·have hx:xs=[]:=List.eq_nil_of_length_eq_zero (by have:=hown.1.1;rw [hn0] at this;simpa using this)
  subst hn0
  have hr':=run_append_nil (P:=P) w t ty e i z ht hi hz a 1 1 news (by omega) hnews (by omega) (by omega) (by omega)
  rw [hr] at hr'
  injection hr' with e1 e2
  subst e1 e2
  obtain rfl:w.heap.size=g:=by simpa [Value.ownBlock] using hg
  exact C1 (Bi w.drew _) (by simp only [Array.toList_append];exact hnd.append (hzd.zero _))
 ·have hcd:=Gb hgh (hown.2 g0 rfl)
  by_cases hroom:n+1≤cap
  ·have hfit:n*i.size+news.length≤cur.size:=by rw [hl,hcs,←Nat.succ_mul];exact Nat.mul_le_mul_right _ hroom
   have hr':=run_append_room (P:=P) w t ty e i ht hi g0 n cap cur hgh a 1 1 news (by omega) hnews h1 hroom hfit
   rw [hr] at hr'
   injection hr' with e1 e2
   subst e1 e2
   obtain rfl:g0=g:=by simpa [Value.ownBlock] using hg
   refine C1 (setRow_heap w g0 cur _ e _ hgh) ?_
   simp only []
   exact (NoD.append (fun u hu=>hcd u (List.mem_of_mem_take hu)) hnd).append (fun u hu=>hcd u (List.mem_of_mem_drop hu))
  ·have holds:∀ j u,xs[j]? = some u→w.cell? ((⟨g0,0,none⟩:Addr).add j)=some u:=hown.1.cells (g:=g0) rfl
   have hr':=run_append_grow (P:=P) w t ty e i z ht hi hz ⟨g0,0,none⟩ n cap xs hown.1.1 holds a 1 1 news (by omega) hnews (by omega) (by omega) (growslice_fits (by omega) hbytes)
   rw [hr] at hr'
   injection hr' with e1 e2
   subst e1 e2
   obtain rfl:w.heap.size=g:=by simpa [Value.ownBlock] using hg
   refine C1 (Bi w.drew _) ?_
   simp only [Array.toList_append]
   exact (NoD.append (fun u hu=>hcd u (by rw [←htake] at hu;exact List.mem_of_mem_take hu)) hnd).append (hzd.zero _)
/-! ### stamps -/
structure StampP where
 kind:Int
 row:Int
 col:Int
 val:Rat
def StampR (w:World) (cs:List Value) (s:StampP):Prop :=
 I64 s.kind∧I64 s.row∧I64 s.col∧∃ A1 n1 c1 A2 n2 c2,cs=[.int .i64 s.kind,.int .i64 s.row,.int .i64 s.col,.bool (decide (s.val.num<0)),.slice A1 n1 c1,.bool false,.slice A2 n2 c2]∧
  Nums w (.slice A1 n1 c1) (digs s.val.num)∧Nums w (.slice A2 n2 c2) (digs (s.val.den:Int))
def StampsR (w:World) (xs:List Value):List StampP→Prop
 | []=>xs=[]
 | s::L=>∃ cs rest,xs=cs++rest∧StampR w cs s∧StampsR w rest L
theorem StampsR.snoc {w:World} {cs:List Value} {s:StampP} (hs:StampR w cs s):∀ {xs:List Value} {L:List StampP},StampsR w xs L→StampsR w (xs++cs) (L++[s])
 | xs,[],h=>by
  have:xs=[]:=h
  subst this
  exact ⟨cs,[],by simp,hs,rfl⟩
 | xs,t::L,⟨c1,rest,e,h1,h2⟩=>⟨c1,rest++cs,by rw [e,List.append_assoc],h1,h2.snoc hs⟩
theorem StampR.other {w w':World} {cs:List Value} {s:StampP} {r:Nat} (h:StampR w cs s) (hg:w.grownBy w' (some r)) (hp:Dt w r):StampR w' cs s:=by
 obtain ⟨a,b,c,A1,n1,c1,A2,n2,c2,e,h1,h2⟩:=h
 exact ⟨a,b,c,A1,n1,c1,A2,n2,c2,e,h1.other hg hp,h2.other hg hp⟩
theorem StampR.more {w w':World} {cs:List Value} {s:StampP} (h:StampR w cs s) (hg:w.grownBy w' none):StampR w' cs s:=by
 obtain ⟨a,b,c,A1,n1,c1,A2,n2,c2,e,h1,h2⟩:=h
 exact ⟨a,b,c,A1,n1,c1,A2,n2,c2,e,h1.more hg,h2.more hg⟩
theorem StampsR.imp {w w':World} (hi:∀ cs s,StampR w cs s→StampR w' cs s):∀ {xs:List Value} {L:List StampP},StampsR w xs L→StampsR w' xs L
 | _,[],h=>h
 | _,_::_,⟨c1,rest,e,h1,h2⟩=>⟨c1,rest,e,hi _ _ h1,h2.imp hi⟩
theorem StampR.length {w:World} {cs:List Value} {s:StampP} (h:StampR w cs s):cs.length=7:=by
 obtain ⟨_,_,_,_,_,_,_,_,_,e,_⟩:=h;rw [e];rfl
theorem StampR.noD {w:World} {cs:List Value} {s:StampP} (h:StampR w cs s):NoD cs∧∀ u∈cs,u.oneCell'=true:=by
 obtain ⟨_,_,_,A1,n1,c1,A2,n2,c2,e,_⟩:=h
 subst e
 constructor
 ·intro u hu n
  simp only [List.mem_cons,List.not_mem_nil,or_false] at hu
  rcases hu with rfl | rfl | rfl | rfl | rfl | rfl | rfl<;>simp
 ·intro u hu
  simp only [List.mem_cons,List.not_mem_nil,or_false] at hu
  rcases hu with rfl | rfl | rfl | rfl | rfl | rfl | rfl<;>rfl
theorem StampsR.at {w:World}:∀ {xs:List Value} {L:List StampP},StampsR w xs L→∀ i (hi:i<L.length),∃ cs,StampR w cs L[i]∧∀ j,j<7→xs[i*7+j]? = cs[j]?
 | _,[],_,i,hi=>by simp at hi
 | _,s::L,⟨cs,rest,e,h1,h2⟩,0,hi=>⟨cs,h1,fun j hj=>by rw [e,List.getElem?_append_left (by rw [h1.length];omega)];congr 1;omega⟩
 | _,s::L,⟨cs,rest,e,h1,h2⟩,i+1,hi=>by
  obtain ⟨cs',h3,h4⟩:=h2.at i (by simpa using hi)
  refine ⟨cs',h3,fun j hj=>?_⟩
  rw [e,List.getElem?_append_right (by rw [h1.length];omega),h1.length,←h4 j hj]
  congr 1
  omega
theorem StampsR.length {w:World}:∀ {xs:List Value} {L:List StampP},StampsR w xs L→xs.length=L.length*7
 | _,[],h=>by have:_=[]:=h;subst this;rfl
 | _,_::L,⟨cs,rest,e,h1,h2⟩=>by rw [e,List.length_append,h1.length,h2.length,List.length_cons];omega
def put1 (kind r c:Int) (q:Rat):List StampP:=if r<0∨c<0 then [] else [⟨kind,r,c,q⟩]
theorem Xk:(Tryz.prog.info? 111).map (fun i=>(i.zero,i.size,i.bytes))=some (some (.agg #[.int .i64 0,.int .i64 0,.int .i64 0,.bool false,.slice none 0 0,.bool false,.slice none 0 0]),7,88):=by kernel_rfl
theorem OwnQ.form {w:World} {base:Nat} {e:TypeId} {size n:Nat} {v:Value} {xs:List Value} (h:OwnQ w base e size v n xs):∃ A c,v=.slice A n c:=by
 rcases h.1.2 with ⟨rfl,h0⟩ | ⟨g,cap,cur,rfl,_⟩
 ·exact ⟨none,0,by rw [h0]⟩
 ·exact ⟨_,_,rfl⟩
theorem OwnQ.row_plain {w:World} {base:Nat} {e:TypeId} {size n:Nat} {v:Value} {xs:List Value} (h:OwnQ w base e size v n xs):∀ r,v.ownBlock=some r→Dt w r:=h.2
theorem Nums.row {w w':World} {v:Value} {xs:List Nat} {row:Option Nat} (h:Nums w v xs) (hg:w.grownBy w' row) (hp:∀ r,row=some r→Dt w r):Nums w' v xs:=by
 cases row with
 | none=>exact h.more hg
 | some r=>exact h.other hg (hp r rfl)
theorem StampR.row {w w':World} {cs:List Value} {s:StampP} {row:Option Nat} (h:StampR w cs s) (hg:w.grownBy w' row) (hp:∀ r,row=some r→Dt w r):StampR w' cs s:=by
 cases row with
 | none=>exact h.more hg
 | some r=>exact h.other hg (hp r rfl)
theorem RatB.row {w w':World} {b:Nat} {q:Rat} {row:Option Nat} (h:RatB w b q) (hg:w.grownBy w' row) (hp:∀ r,row=some r→Dt w r) (hne:∀ r,row=some r→b≠r):RatB w' b q:=by
 cases row with
 | none=>exact h.more hg
 | some r=>exact h.other hg (hp r rfl) (hne r rfl)
theorem Blk.row {w w':World} {b:Nat} {cs:Array Value} {row:Option Nat} (h:Blk w b cs) (hg:w.grownBy w' row) (hne:row≠some b):Blk w' b cs:=by
 obtain ⟨T,h⟩:=h;exact ⟨T,Do hg h (fun e=>hne e.symm)⟩
theorem RatB.four {w:World} {b:Nat} {q:Rat} (h:RatB w b q):∃ cs T,cs.size=4∧w.heap[b]? = some (.cells cs T (0,0)):=by
 obtain ⟨v1,v2,d,T,_,hb,_⟩:=h
 exact ⟨_,T,rfl,hb⟩
theorem RatB.ne_own {w:World} {b:Nat} {q:Rat} (h:RatB w b q) {base:Nat} {e:TypeId} {n:Nat} {v:Value} {xs:List Value} (ho:OwnQ w base e 7 v n xs):∀ r,v.ownBlock=some r→b≠r:=by
 intro r hr hbr
 subst hbr
 obtain ⟨cs,T,h4,hb⟩:=h.four
 rcases ho.1.2 with ⟨rfl,_⟩ | ⟨g,cap,cur,rfl,_,hh,_,_,hcs,_⟩
 ·simp [Value.ownBlock] at hr
 ·obtain rfl:g=b:=by simpa [Value.ownBlock] using hr
  rw [hb] at hh
  injection hh with hh
  injection hh with e1 e2 e3
  subst e1
  omega
theorem RatB.ne_blk {w:World} {b p:Nat} {q:Rat} (h:RatB w b q) {cs:Array Value} (hp:Blk w p cs) (hs:cs.size≠4):b≠p:=by
 intro e
 subst e
 obtain ⟨cs',T,h4,hb⟩:=h.four
 obtain ⟨T',hp⟩:=hp
 rw [hb] at hp
 injection hp with hp
 injection hp with e1 e2 e3
 subst e1
 exact hs h4
theorem Fo {P:Program} {w:World} {ops:Array Oper} {o:Oper} {a:Act} {K:Act→World→Prop} {Q:Exit→Act→World→Prop} {E:Prop} (hgd:o.guard=none) (f:FuncId) (x:Operand) (ty:TypeId)
  (ho:o.op=.call { callee:=.value (.func f),args:=#[x],argTypes:=#[ty] }) (u:Value) (hu:a.eval x=u)
  (henter:∀ args w,(callFunc f args).run P w=.ok (.enter f args) w)
  (R:Value→World→Prop) (hC:Calls P f #[u] w fun e w'=>∃ v,e=.returned v∧R v w') (hK:∀ v w',R v w'→K (a.put o.dst v) w') :
  if Region.wanted o (yielded ops a.tmps)=true then Oper.wp P o a w K Q else E:=by
 have hw:Region.wanted o (yielded ops a.tmps)=true:=by simp [Region.wanted,hgd]
 rw [if_pos hw]
 have hf:a.eval (.func f)=.func (.func f) #[] #[]:=rfl
 have hrun:(execOp a.eval o).run P w=.ok (.enter f #[u]) w:=by
  generalize a.eval=ev at *
  simp [execOp,ho,resolve,invoke,hu,hf,henter,go_sem]
 unfold Oper.wp
 rw [hrun]
 simp only [Oper.upon]
 refine hC.mono ?_
 rintro e w' ⟨v,rfl,hr⟩
 exact hK v w' hr
theorem Og {P:Program} {w:World} (base:Nat) (t ty e:TypeId) (z:Value) (size bytes:Nat) (ht:P.underlying t=some (.slice e)) (hinfo:(P.info? e).map (fun i=>(i.zero,i.size,i.bytes))=some (some z,size,bytes)) (hzs:z.cells.size=size) (hsz:0<size) (hb0:0<bytes)
  (v:Value) (n:Nat) (xs:List Value) (hown:OwnQ w base e size v n xs)
  (B:Nat) (ys:Array Value) (T:TypeId) (fr:Nat × Nat) (hB:w.heap[B]? = some (.cells ys T fr)) (hl:ys.toList.length=size) (h1:∀ u∈ys.toList,u.oneCell'=true)
  (hbytes:(n+1)*bytes≤140737488355328) (hbase:base≤w.heap.size) (hnd:NoD ys.toList) (hzd:NoD z.cells.toList) :
  ∃ g cap w',(Builtin.append_ #[t,t] ty #[v,.slice (some ⟨B,0,none⟩) 1 1]).run P w=.ok (.slice (some ⟨g,0,none⟩) (n+1) cap) w'∧OwnQ w' base e size (.slice (some ⟨g,0,none⟩) (n+1) cap) (n+1) (xs++ys.toList)∧w.grownBy w' v.ownBlock∧(v.ownBlock=some g∨g=w.heap.size):=by
 obtain ⟨i,hi,hzz⟩:=Option.map_eq_some_iff.1 hinfo
 simp only [Prod.mk.injEq] at hzz
 obtain ⟨hz0,hz1,hz2⟩:=hzz
 obtain ⟨v',w',hr,h2,h3,h4⟩:=Pm (P:=P) (w:=w) base t ty e i z size bytes ht hi hz0 hz1 hz2 hzs hsz v n xs hown ⟨B,0,none⟩ ys.toList hl (World.news_of_block hB) h1 hbytes hb0 hbase hnd hzd
 rcases h2.1.2 with ⟨_,h0⟩ | ⟨g,cap,cur,rfl,_⟩
 ·omega
 ·refine ⟨g,cap,w',hr,h2,h3,?_⟩
  simp only [Value.ownBlock] at h4
  rcases h4 with h4 | h4
  ·exact .inl (by simpa [Value.ownBlock] using h4.symm)
  ·exact .inr (by simpa using h4)
theorem Cu {P:Program} {W:World} {ops:Array Oper} {rest:List Oper} {o:Oper} {a:Act} {Q:Exit→Act→World→Prop} (base:Nat) (hgd:o.guard=none) (s x:Operand) (t e:TypeId) (z:Value) (size bytes:Nat)
  (ho:o.op=.call { callee:=.builtin .append,args:=#[s,x],argTypes:=#[t,t] })
  (ht:P.underlying t=some (.slice e)) (hinfo:(P.info? e).map (fun i=>(i.zero,i.size,i.bytes))=some (some z,size,bytes)) (hzs:z.cells.size=size) (hsz:0<size) (hb0:0<bytes)
  (v:Value) (n:Nat) (xs:List Value) (ys:Array Value) (hs:a.eval s=v) (HO:OwnQ W base e size v n xs)
  (hx:a.eval x=.slice (some ⟨W.heap.size,0,none⟩) 1 1) (hl:ys.toList.length=size) (h1:∀ u∈ys.toList,u.oneCell'=true)
  (hbytes:(n+1)*bytes≤140737488355328) (hbase:base≤W.heap.size) (hnd:NoD ys.toList) (hzd:NoD z.cells.toList)
  (h:∀ g cap w1,OwnQ w1 base e size (.slice (some ⟨g,0,none⟩) (n+1) cap) (n+1) (xs++ys.toList)→(W.alloc (.cells ys e)).grownBy w1 v.ownBlock→wpList P ops Q rest (a.put o.dst (.slice (some ⟨g,0,none⟩) (n+1) cap)) w1) :
  wpList P ops Q (o::rest) a (W.alloc (.cells ys e)):=by
 obtain ⟨g,cap,w1,hr,h2,h3,_⟩:=Og (P:=P) (w:=W.alloc (.cells ys e)) base t o.type e z size bytes ht hinfo hzs hsz hb0 v n xs (HO.more (Af _ _ _)) W.heap.size ys e (0,0) (Bi _ _) hl h1 hbytes (by rw [World.size_alloc];omega) hnd hzd
 refine wpList_plain hgd fun K hK=>?_
 unfold Oper.wp execOp
 simp only [ho,resolve,invoke,builtin,Sem.run_bind,Sem.run_pure,Result.andThen_ok,List.map_toArray,List.map_cons,List.map_nil,hs,hx,hr]
 exact hK _ _ (h g cap w1 h2 h3)
theorem V9 {P:Program} {w:World} {ops:Array Oper} {o:Oper} {a:Act} {K:Act→World→Prop} {Q:Exit→Act→World→Prop} {E:Prop} (hgd:o.guard=none) (s x:Operand) (t:TypeId)
  (ho:o.op=.call { callee:=.builtin .append,args:=#[s,x],argTypes:=#[t,t] })
  (base:Nat) (e:TypeId) (z:Value) (size bytes:Nat) (ht:P.underlying t=some (.slice e)) (hinfo:(P.info? e).map (fun i=>(i.zero,i.size,i.bytes))=some (some z,size,bytes)) (hzs:z.cells.size=size) (hsz:0<size) (hb0:0<bytes)
  (v:Value) (n:Nat) (xs:List Value) (hs:a.eval s=v) (hown:OwnQ w base e size v n xs)
  (B:Nat) (ys:Array Value) (T:TypeId) (fr:Nat × Nat) (hB:w.heap[B]? = some (.cells ys T fr)) (hx:a.eval x=.slice (some ⟨B,0,none⟩) 1 1) (hl:ys.toList.length=size) (h1:∀ u∈ys.toList,u.oneCell'=true)
  (hbytes:(n+1)*bytes≤140737488355328) (hbase:base≤w.heap.size) (hnd:NoD ys.toList) (hzd:NoD z.cells.toList)
  (h:∀ g cap w',OwnQ w' base e size (.slice (some ⟨g,0,none⟩) (n+1) cap) (n+1) (xs++ys.toList)→w.grownBy w' v.ownBlock→(v.ownBlock=some g∨g=w.heap.size)→K (a.put o.dst (.slice (some ⟨g,0,none⟩) (n+1) cap)) w') :
  if Region.wanted o (yielded ops a.tmps)=true then Oper.wp P o a w K Q else E:=by
 have hw:Region.wanted o (yielded ops a.tmps)=true:=by simp [Region.wanted,hgd]
 rw [if_pos hw]
 obtain ⟨i,hi,hzz⟩:=Option.map_eq_some_iff.1 hinfo
 simp only [Prod.mk.injEq] at hzz
 obtain ⟨hz0,hz1,hz2⟩:=hzz
 obtain ⟨v',w',hr,h2,h3,h4⟩:=Pm (P:=P) (w:=w) base t o.type e i z size bytes ht hi hz0 hz1 hz2 hzs hsz v n xs hown ⟨B,0,none⟩ ys.toList hl (World.news_of_block hB) h1 hbytes hb0 hbase hnd hzd
 unfold Oper.wp execOp
 simp only [ho,resolve,invoke,builtin,Sem.run_bind,Sem.run_pure,Result.andThen_ok,List.map_toArray,List.map_cons,List.map_nil,hs,hx,hr]
 rcases h2.1.2 with ⟨_,h0⟩ | ⟨g,cap,cur,rfl,_⟩
 ·omega
 ·refine h g cap w' h2 h3 ?_
  simp only [Value.ownBlock] at h4
  rcases h4 with h4 | h4
  ·exact .inl (by simpa [Value.ownBlock] using h4.symm)
  ·exact .inr (by simpa using h4)
structure PenS (W0 w:World) (pb:Nat) (d:DevP) (An:Option Addr) (cn:Nat) (Av:Option Addr) (cv:Nat) (As:Option Addr) (cs:Nat) (Ag:Option Addr) (cg:Nat) (Am:Option Addr) (cm:Nat) (br:List Int) (k:Int) (L:List StampP):Prop where
 base:W0.heap.size≤pb
 grown:W0.grownBy w none
 dev:DevAt W0 d An cn Av cv As cs Ag cg Am cm
 pen:∃ Ab nb cb lv xs,Row W0 (.slice Ab nb cb) (ints br)∧Blk w pb #[.int .u8 d.kind,.string d.name,.slice An d.nodes.length cn,.int .i64 d.ref,.int .i64 d.val.1,.int .i64 d.val.2,.int .i64 d.wkind,.slice Av d.wvals.length cv,.slice As d.wsteps.length cs,.string d.mname,.int .u8 d.mkind,.slice Ag d.mg.length cg,.slice Am d.mv.length cm,.slice Ab nb cb,.int .i64 k,lv]∧OwnQ w W0.heap.size 111 7 lv L.length xs∧StampsR w xs L∧lv.ownBlock≠some pb
theorem Xe {w:World} {pb:Nat} {d:DevP} {An Av As Ag Am Ab:Option Addr} {cn cv cs cg cm nb cb:Nat} {k:Int} {A:Option Addr} {n c:Nat} (h:Blk w pb #[.int .u8 d.kind,.string d.name,.slice An d.nodes.length cn,.int .i64 d.ref,.int .i64 d.val.1,.int .i64 d.val.2,.int .i64 d.wkind,.slice Av d.wvals.length cv,.slice As d.wsteps.length cs,.string d.mname,.int .u8 d.mkind,.slice Ag d.mg.length cg,.slice Am d.mv.length cm,.slice Ab nb cb,.int .i64 k,.slice A n c]):Dt w pb:=by
 obtain ⟨T,h⟩:=h
 refine C1 h ?_
 intro u hu n
 simp only [List.mem_cons,List.not_mem_nil,or_false] at hu
 rcases hu with rfl | rfl | rfl | rfl | rfl | rfl | rfl | rfl | rfl | rfl | rfl | rfl | rfl | rfl | rfl | rfl<;>simp
theorem P5:NoD (Value.agg #[.int .i64 0,.int .i64 0,.int .i64 0,.bool false,.slice none 0 0,.bool false,.slice none 0 0]).cells.toList:=by
 intro u hu n
 simp [Value.cells] at hu
 rcases hu with rfl | rfl | rfl | rfl | rfl<;>simp
def Keeps (w w':World):Prop:=(∀ b q,RatB w b q→RatB w' b q)∧(∀ b (cs:Array Value),cs.size=4→Blk w b cs→Blk w' b cs)∧∀ v xs,Nums w v xs→Nums w' v xs
theorem Keeps.refl (w:World):Keeps w w:=⟨fun _ _ h=>h,fun _ _ _ h=>h,fun _ _ h=>h⟩
theorem Keeps.trans {a b c:World} (h:Keeps a b) (k:Keeps b c):Keeps a c:=⟨fun x q hx=>k.1 x q (h.1 x q hx),fun x cs h4 hx=>k.2.1 x cs h4 (h.2.1 x cs h4 hx),fun v xs hx=>k.2.2 v xs (h.2.2 v xs hx)⟩
theorem Keeps.more {a b:World} (h:a.grownBy b none):Keeps a b:=⟨fun _ _ hx=>hx.more h,fun _ _ _ hx=>hx.more h,fun _ _ hx=>hx.more h⟩
theorem A1v {w:World} {b:Nat} {cs ds:Array Value} (h:Blk w b cs) (k:Blk w b ds):cs=ds:=by
 obtain ⟨T,h⟩:=h
 obtain ⟨T',k⟩:=k
 rw [h] at k
 injection k with k
 injection k
theorem Y7 {w:World} {b:Nat} {cs:Array Value} (h:Blk w b cs) (h4:cs.size=4) {base:Nat} {e:TypeId} {n:Nat} {v:Value} {xs:List Value} (ho:OwnQ w base e 7 v n xs):v.ownBlock≠some b:=by
 intro hr
 obtain ⟨T,hb⟩:=h
 rcases ho.1.2 with ⟨rfl,_⟩ | ⟨g,cap,cur,rfl,_,hh,_,_,hcs,_⟩
 ·simp [Value.ownBlock] at hr
 ·obtain rfl:g=b:=by simpa [Value.ownBlock] using hr
  rw [hb] at hh
  injection hh with hh
  injection hh with e1 e2 e3
  subst e1
  omega
theorem A0m {W0 w w1 w3:World} {pb:Nat} {d:DevP} {An Av As Ag Am Ab:Option Addr} {cn cv cs cg cm nb cb:Nat} {br:List Int} {k:Int} {L:List StampP} {A:Option Addr} {c g cap:Nat} {xs:List Value} {s:StampP} {ys:Array Value} {T:TypeId}
  (hbase:W0.heap.size≤pb) (hgr:W0.grownBy w none) (hdev:DevAt W0 d An cn Av cv As cs Ag cg Am cm) (hbr:Row W0 (.slice Ab nb cb) (ints br)) (hown:OwnQ w W0.heap.size 111 7 (.slice A L.length c) L.length xs) (hst:StampsR w xs L) (hne:(Value.slice A L.length c).ownBlock≠some pb)
  (hblk:Blk w pb #[.int .u8 d.kind,.string d.name,.slice An d.nodes.length cn,.int .i64 d.ref,.int .i64 d.val.1,.int .i64 d.val.2,.int .i64 d.wkind,.slice Av d.wvals.length cv,.slice As d.wsteps.length cs,.string d.mname,.int .u8 d.mkind,.slice Ag d.mg.length cg,.slice Am d.mv.length cm,.slice Ab nb cb,.int .i64 k,.slice A L.length c])
  (hgw1:w.grownBy w1 none) (hsr:StampR w1 ys.toList s)
  (hblk3:Blk w3 pb #[.int .u8 d.kind,.string d.name,.slice An d.nodes.length cn,.int .i64 d.ref,.int .i64 d.val.1,.int .i64 d.val.2,.int .i64 d.wkind,.slice Av d.wvals.length cv,.slice As d.wsteps.length cs,.string d.mname,.int .u8 d.mkind,.slice Ag d.mg.length cg,.slice Am d.mv.length cm,.slice Ab nb cb,.int .i64 k,.slice A L.length c])
  (hown3:OwnQ w3 W0.heap.size 111 7 (.slice (some ⟨g,0,none⟩) (L.length+1) cap) (L.length+1) (xs++ys.toList))
  (hgrow:(w1.alloc (.cells ys T)).grownBy w3 (Value.slice A L.length c).ownBlock) (hat:(Value.slice A L.length c).ownBlock=some g∨g=(w1.alloc (.cells ys T)).heap.size) :
  PenS W0 (w3.setCell ⟨pb,15,none⟩ (.slice (some ⟨g,0,none⟩) (L.length+1) cap)) pb d An cn Av cv As cs Ag cg Am cm br k (L++[s])∧Keeps w (w3.setCell ⟨pb,15,none⟩ (.slice (some ⟨g,0,none⟩) (L.length+1) cap)):=by
 have ga:=Ae hgw1 (Af w1 (.cells ys T) none)
 have howna:=hown.more ga
 have hlt:=hblk.lt
 have hgp:g≠pb:=by
  rcases hat with h | h
  ·intro e;subst e;exact hne h
  ·have:=hgw1.size;rw [h,World.size_alloc];omega
 have hpl:=Xe hblk3
 refine ⟨⟨hbase,Aw (Ep (Ae hgr ga) hgrow (D4 hown.1)) (Au _ _ _ _) hbase,hdev,Ab,nb,cb,.slice (some ⟨g,0,none⟩) (L.length+1) cap,xs++ys.toList,hbr,?_,?_,?_,?_⟩,?_⟩
 ·exact hblk3.set 15 _
 ·have:=hown3.other (Au w3 pb 15 (.slice (some ⟨g,0,none⟩) (L.length+1) cap)) (by simp [Value.ownBlock];exact hgp)
  simpa using this
 ·refine StampsR.snoc ?_ ?_
  ·exact ((hsr.more (Af _ _ _)).row hgrow (howna.row_plain)).other (Au _ _ _ _) hpl
  ·exact hst.imp fun cs s h=>((h.more ga).row hgrow (howna.row_plain)).other (Au _ _ _ _) hpl
 ·simp [Value.ownBlock];exact hgp
 ·refine ⟨fun b q hx=>?_,fun b cs h4 hx=>?_,fun v xs hx=>?_⟩
  ·have h1:=hx.more ga
   have h3:=h1.row hgrow howna.row_plain (h1.ne_own howna)
   exact h3.other (Au _ _ _ _) hpl (h3.ne_blk hblk3 (by simp))
  ·have h1:=hx.more ga
   have h3:=h1.row hgrow (Y7 h1 h4 howna)
   refine h3.row (Au _ _ _ _) fun e=>?_
   injection e with e
   subst e
   have:=congrArg Array.size (A1v h3 hblk3)
   rw [h4] at this
   simp at this
  ·exact ((hx.more ga).row hgrow howna.row_plain).other (Au _ _ _ _) hpl
end
section
open Go.RowKit Go.Maps
open Rat
set_option maxRecDepth 100000 in
theorem Oa (W0 w:World) (pb:Nat) (d:DevP) (An:Option Addr) (cn:Nat) (Av:Option Addr) (cv:Nat) (As:Option Addr) (cs:Nat) (Ag:Option Addr) (cg:Nat) (Am:Option Addr) (cm:Nat) (br:List Int) (k:Int) (L:List StampP) (h:PenS W0 w pb d An cn Av cv As cs Ag cg Am cm br k L) (kind row col:Int) (ik:I64 kind) (ir:I64 row) (ic:I64 col) (vb:Nat) (q:Rat) (hq:RatB w vb q) (lq:LimQ q 1099511627776) (hL:L.length≤100000000) :
  Calls Tryz.prog 155 #[.pointer (some ⟨pb,0,none⟩),.int .i64 kind,.int .i64 row,.int .i64 col,.pointer (some ⟨vb,0,none⟩)] w fun e w'=>e=.returned (.tuple #[])∧Hid (PenS W0 w' pb d An cn Av cv As cs Ag cg Am cm br k (L++put1 kind row col q)∧Keeps w w')∧w'.cell? ⟨pb,13,none⟩=w.cell? ⟨pb,13,none⟩:=by
 by_cases hg:row<0∨col<0
 ·have hp:put1 kind row col q=[]:=by unfold put1;rw [if_pos hg]
  have HP:Hid (PenS W0 w pb d An cn Av cv As cs Ag cg Am cm br k (L++put1 kind row col q)):=Ac (by rw [hp,List.append_nil];exact h)
  clear h hp
  by_cases hr:row<0
  ·go_enter Tryz.func155,Tryz.ntmps155
   go_wp2_with fail
   try simp only [Exit.inBlock,Exit.then]
   refine bodyPost_ret (results_none rfl _ _ _) rfl ?_
   exact ⟨rfl,Ac ⟨HP.out,Keeps.refl _⟩,rfl⟩
  ·have hc:col<0:=by omega
   go_enter Tryz.func155,Tryz.ntmps155
   go_wp2_with fail
   try simp only [Exit.inBlock,Exit.then]
   refine bodyPost_ret (results_none rfl _ _ _) rfl ?_
   exact ⟨rfl,Ac ⟨HP.out,Keeps.refl _⟩,rfl⟩
 ·have hr:¬ row<0:=by omega
  have hc:¬ col<0:=by omega
  have hp:put1 kind row col q=[⟨kind,row,col,q⟩]:=by unfold put1;rw [if_neg hg]
  have HP:=Ac hp
  have H:=Ac h
  obtain ⟨Ab,nb,cb,lv,xs,hbr,hblk,hown,hst,hne⟩:=h.pen
  obtain ⟨A,c,rfl⟩:=hown.form
  have hsb:W0.heap.size≤w.heap.size:=h.grown.size
  have hplt:=hblk.lt
  have c15:w.cell? ⟨pb,15,none⟩=some (.slice A L.length c):=hblk.cell 15
  have f15:=hblk.free 15
  have HBLK:=Ac hblk
  have HOWN:=Ac hown
  have HST:=Ac hst
  have HNE:=Ac hne
  have HBR:=Ac hbr
  clear hp h hbr hblk hown hst hne hg
  go_enter Tryz.func155,Tryz.ntmps155
  go_wp2_with fail
  have hL88:(L.length+1)*88≤140737488355328:=by omega
  have henter:∀ args w,(callFunc 130 args).run Tryz.prog w=.ok (.enter 130 args) w:=enters_of Tryz.func130 (by kernel_rfl) rfl
  have hFR:∀ W,w.grownBy W none→Calls Tryz.prog 130 #[.pointer (some ⟨vb,0,none⟩)] W fun e w'=>∃ v,e=.returned v∧(∃ A1 n1 c1 A2 n2 c2,v=.agg #[.bool (decide (q.num<0)),.slice A1 n1 c1,.bool false,.slice A2 n2 c2]∧StampR w' [.int .i64 kind,.int .i64 row,.int .i64 col,.bool (decide (q.num<0)),.slice A1 n1 c1,.bool false,.slice A2 n2 c2] ⟨kind,row,col,q⟩∧w.grownBy w' none):=fun W hW=>(E7 W vb q (hq.more hW) lq).mono fun e w' h=>by
   obtain ⟨v1,v2,rfl,hn1,hn2,hf1,hf2,hg1⟩:=h
   obtain ⟨A1,n1,c1,rfl⟩:=hn1.ctor
   obtain ⟨A2,n2,c2,rfl⟩:=hn2.ctor
   exact ⟨_,rfl,A1,n1,c1,A2,n2,c2,rfl,⟨ik,ir,ic,_,_,_,_,_,_,rfl,hn1,hn2⟩,Ae hW hg1⟩
  have HFR:=Ac hFR
  have HQ:=Ac hq
  have HENT:=Ac henter
  clear hFR hq henter
  go_region_law (first
   | (refine Fo (by rfl) 130 (.tmp 24) _ (by rfl) (.pointer (some ⟨vb,0,none⟩)) (by rfl) HENT.out _ (HFR.out _ (Ai _ _)) ?_;rintro v w1 ⟨A1,n1,c1,A2,n2,c2,rfl,hsr,hgw1⟩;have HSR:=Ac hsr;clear hsr;have hsw1:=hgw1.size;have c15:=Aj hgw1 c15 (by simp);have c15a:∀ o,(w1.alloc o).cell? ⟨pb,15,none⟩=some (.slice A L.length c):=(fun o=>((HBLK.out.more hgw1).more (Af _ _ _)).cell 15))
   | (refine V9 (by rfl) (.tmp 20) (.tmp 27) 107 (by rfl) W0.heap.size 111 _ 7 88 Tryz.underlying107 Xk (by rfl) (by omega) (by omega) (.slice A L.length c) L.length xs (by rfl) (HOWN.out.more (Ae hgw1 (Af _ _ _))) w1.heap.size #[.int .i64 kind,.int .i64 row,.int .i64 col,.bool (decide (q.num<0)),.slice A1 n1 c1,.bool false,.slice A2 n2 c2] 111 (0,0) (Bi _ _) (by rfl) (by rfl) HSR.out.noD.2 hL88 (by simp only [World.size_alloc];omega) HSR.out.noD.1 P5 ?_;intro g cap w3 hown3 hgrow hat;have hblk3:=(HBLK.out.more (Ae hgw1 (Af _ _ _))).row hgrow HNE.out;have c15b:=hblk3.cell 15;have f15b:=hblk3.free 15;have H3:=Ac (And.intro hblk3 (And.intro hown3 (And.intro hgrow hat)));clear hblk3 hown3 hgrow hat)
   | (fail))
  all_goals
   go_wp2_with fail
   go_end0
   obtain ⟨hblk3,hown3,hgrow,hat⟩:=H3.out
   exact ⟨rfl,Ac (by rw [HP.out];exact A0m H.out.base H.out.grown H.out.dev HBR.out HOWN.out HST.out HNE.out HBLK.out hgw1 HSR.out hblk3 hown3 hgrow hat),((hblk3.set 15 _).cell 13).trans (HBLK.out.cell 13).symm⟩
theorem Gi (W0 w:World) (pb:Nat) (d:DevP) (An:Option Addr) (cn:Nat) (Av:Option Addr) (cv:Nat) (As:Option Addr) (cs:Nat) (Ag:Option Addr) (cg:Nat) (Am:Option Addr) (cm:Nat) (br:List Int) (k:Int) (L:List StampP) (h:PenS W0 w pb d An cn Av cv As cs Ag cg Am cm br k L) (kind row col:Int) (ik:I64 kind) (ir:I64 row) (ic:I64 col) (vb:Nat) (q:Rat) (hq:RatB w vb q) (lq:LimQ q 1099511627776) (hL:L.length≤100000000) :
  Calls Tryz.prog 155 #[.pointer (some ⟨pb,0,none⟩),.int .i64 kind,.int .i64 row,.int .i64 col,.pointer (some ⟨vb,0,none⟩)] w fun e w'=>e=.returned (.tuple #[])∧Hid (PenS W0 w' pb d An cn Av cv As cs Ag cg Am cm br k (L++put1 kind row col q)∧Keeps w w') :=
 (Oa W0 w pb d An cn Av cv As cs Ag cg Am cm br k L h kind row col ik ir ic vb q hq lq hL).mono fun _ _ h=>⟨h.1,h.2.1⟩
end
section
open Go.RowKit Go.Maps
open Rat
theorem PenS.more {W0 w w':World} {pb:Nat} {d:DevP} {An Av As Ag Am:Option Addr} {cn cv cs cg cm:Nat} {br:List Int} {k:Int} {L:List StampP} (h:PenS W0 w pb d An cn Av cv As cs Ag cg Am cm br k L) (hg:w.grownBy w' none):PenS W0 w' pb d An cn Av cv As cs Ag cg Am cm br k L:=by
 obtain ⟨Ab,nb,cb,lv,xs,h1,h2,h3,h4,h5⟩:=h.pen
 exact ⟨h.base,Ae h.grown hg,h.dev,Ab,nb,cb,lv,xs,h1,h2.more hg,h3.more hg,h4.imp (fun _ _ x=>x.more hg),h5⟩
theorem Fs (L:List StampP) (kind r c:Int) (q:Rat):(L++put1 kind r c q).length≤L.length+1:=by
 unfold put1;split<;>simp
def DevP.at (d:DevP) (i:Nat):Int:=d.nodes.getD i 0-1
def NodesOK (d:DevP):Prop:=∀ i,i<d.nodes.length→0≤d.nodes.getD i 0∧d.nodes.getD i 0≤1000
theorem NodesOK.at {d:DevP} (h:NodesOK d) (i:Nat):-1≤d.at i∧d.at i≤1000:=by
 unfold DevP.at
 by_cases hi:i<d.nodes.length
 ·have:=h i hi;omega
 ·rw [show d.nodes.getD i 0=0 by simp [List.getD,List.getElem?_eq_none (Nat.le_of_not_lt hi)]];omega
theorem NodesOK.i64 {d:DevP} (h:NodesOK d) (i:Nat):I64 (d.at i):=by have:=h.at i;exact ⟨by omega,by omega⟩
set_option maxRecDepth 100000 in
theorem Be (W0 w:World) (pb:Nat) (d:DevP) (An:Option Addr) (cn:Nat) (Av:Option Addr) (cv:Nat) (As:Option Addr) (cs:Nat) (Ag:Option Addr) (cg:Nat) (Am:Option Addr) (cm:Nat) (br:List Int) (k:Int) (L:List StampP) (h:PenS W0 w pb d An cn Av cv As cs Ag cg Am cm br k L) (hn:NodesOK d) (i:Nat) (hi:i<d.nodes.length) (hi8:i<8) :
  Calls Tryz.prog 151 #[.pointer (some ⟨pb,0,none⟩),.int .i64 i] w fun e w'=>e=.returned (.int .i64 (d.at i))∧w=w':=by
 obtain ⟨Ab,nb,cb,lv,xs,h1,h2,h3,h4,h5⟩:=h.pen
 have c2:w.cell? ⟨pb,2,none⟩=some (.slice An d.nodes.length cn):=h2.cell 2
 obtain ⟨b,o,rfl,hI,hc⟩:=(h.dev.nodes.more h.grown).at hi
 have hb:=hn i hi
 have e1:(i:Int)<(d.nodes.length:Int):=by omega
 show Calls _ _ _ _ fun e w'=>e=.returned (.int .i64 (d.nodes.getD i 0-1))∧w=w'
 clear h h1 h2 h3 h4 h5 hn
 generalize d.nodes.getD i 0=x at *
 generalize d.nodes.length=l at *
 go_enter Tryz.func151,Tryz.ntmps151
 go_wp2_with fail
 go_ret
 exact ⟨rfl,rfl⟩
set_option maxRecDepth 100000 in
theorem Da (W0 w:World) (pb:Nat) (d:DevP) (An:Option Addr) (cn:Nat) (Av:Option Addr) (cv:Nat) (As:Option Addr) (cs:Nat) (Ag:Option Addr) (cg:Nat) (Am:Option Addr) (cm:Nat) (br:List Int) (k:Int) (L:List StampP) (h:PenS W0 w pb d An cn Av cv As cs Ag cg Am cm br k L) (hk:0≤k) (hk2:k.toNat<br.length) :
  Calls Tryz.prog 156 #[.pointer (some ⟨pb,0,none⟩)] w fun e w'=>e=.returned (.int .i64 (br.getD k.toNat 0))∧w.grownBy w' none:=by
 obtain ⟨Ab,nb,cb,lv,xs,h1,h2,h3,h4,h5⟩:=h.pen
 obtain ⟨j,rfl⟩:∃ j:Nat,k=j:=⟨k.toNat,by omega⟩
 have c13:w.cell? ⟨pb,13,none⟩=some (.slice Ab nb cb):=h2.cell 13
 have c14:w.cell? ⟨pb,14,none⟩=some (.int .i64 (j:Int)):=h2.cell 14
 simp only [Int.toNat_natCast] at *
 rcases (h1.more h.grown).open with ⟨b,o,c,e,l1,l2,hc⟩ | ⟨_,_,_,_,_,h0⟩
 ·injection e with e1 e2 e3
  subst e1 e2 e3
  rw [D5] at *
  have hcj:=(hc j hk2).trans (J5 br j hk2)
  have e1:(j:Int)<(br.length:Int):=by omega
  have e0:(0:Int)≤(j:Int):=by omega
  clear h h1 h2 h3 h4 h5 hc
  generalize br.getD j 0=x at *
  generalize br.length=l at *
  go_enter Tryz.func156,Tryz.ntmps156
  go_wp2_with fail
  go_quiet (fail)
  go_wp2_with fail
  go_ret
  exact ⟨rfl,Az _ _ _⟩
 ·have:=congrArg List.length h0;rw [D5] at this;simp at this;rw [this] at hk2;simp at hk2
theorem D6 (w:World):Calls Tryz.prog 157 #[] w fun e w'=>∃ b,e=.returned (.pointer (some ⟨b,0,none⟩))∧RatB w' b 1∧w.grownBy w' none:=by
 go_enter Tryz.func157,Tryz.ntmps157
 go_wp2_with fail
 refine (F7 w 1 1 (by omega) (by omega) (by omega) (by omega) (by omega)).mono ?_
 rintro e w1 ⟨b,rfl,hr,hb,hg⟩
 go_wp2_with fail
 go_ret
 exact ⟨b,rfl,hr,hg⟩
theorem C5 (w:World) (vb:Nat) (q:Rat) (hq:RatB w vb q) (lq:LimQ q 1099511627776):Calls Tryz.prog 158 #[.pointer (some ⟨vb,0,none⟩)] w fun e w'=>∃ b,e=.returned (.pointer (some ⟨b,0,none⟩))∧RatB w' b (-q)∧w.grownBy w' none:=by
 have ga:=Af w (.cells #[.bool false,.slice none 0 0,.bool false,.slice none 0 0] 178) none
 have hz:=RatB.new w 178
 have hN:=Nc _ w.heap.size vb 0 q hz (hq.more ga) lq
 have HN:=Ac hN
 clear hN
 go_enter Tryz.func158,Tryz.ntmps158
 go_wp2_with fail
 refine HN.out.mono ?_
 rintro e w1 ⟨rfl,hr,hg⟩
 go_wp2_with fail
 go_ret
 exact ⟨_,rfl,hr,Aw ga hg (Nat.le_refl _)⟩
theorem Rs (W0 w:World) (pb:Nat) (d:DevP) (An:Option Addr) (cn:Nat) (Av:Option Addr) (cv:Nat) (As:Option Addr) (cs:Nat) (Ag:Option Addr) (cg:Nat) (Am:Option Addr) (cm:Nat) (br:List Int) (k:Int) (L:List StampP) (h:PenS W0 w pb d An cn Av cv As cs Ag cg Am cm br k L) (row col:Int) (ir:I64 row) (ic:I64 col) (vb:Nat) (q:Rat) (hq:RatB w vb q) (lq:LimQ q 1099511627776) (hL:L.length≤100000000) :
  Calls Tryz.prog 160 #[.pointer (some ⟨pb,0,none⟩),.int .i64 row,.int .i64 col,.pointer (some ⟨vb,0,none⟩)] w fun e w'=>e=.returned (.tuple #[])∧Hid (PenS W0 w' pb d An cn Av cv As cs Ag cg Am cm br k (L++put1 1 row col q)∧Keeps w w')∧w'.cell? ⟨pb,13,none⟩=w.cell? ⟨pb,13,none⟩:=by
 have hP:=Oa W0 w pb d An cn Av cv As cs Ag cg Am cm br k L h 1 row col ⟨by omega,by omega⟩ ir ic vb q hq lq hL
 have HP:=Ac hP
 clear hP h hq lq
 go_enter Tryz.func160,Tryz.ntmps160
 go_wp2_with fail
 refine HP.out.mono ?_
 rintro e w1 ⟨rfl,hK⟩
 go_wp2_with fail
 go_end0
 exact ⟨rfl,hK⟩
theorem Cg (W0 w:World) (pb:Nat) (d:DevP) (An:Option Addr) (cn:Nat) (Av:Option Addr) (cv:Nat) (As:Option Addr) (cs:Nat) (Ag:Option Addr) (cg:Nat) (Am:Option Addr) (cm:Nat) (br:List Int) (k:Int) (L:List StampP) (h:PenS W0 w pb d An cn Av cv As cs Ag cg Am cm br k L) (row col:Int) (ir:I64 row) (ic:I64 col) (vb:Nat) (q:Rat) (hq:RatB w vb q) (lq:LimQ q 1099511627776) (hL:L.length≤100000000) :
  Calls Tryz.prog 160 #[.pointer (some ⟨pb,0,none⟩),.int .i64 row,.int .i64 col,.pointer (some ⟨vb,0,none⟩)] w fun e w'=>e=.returned (.tuple #[])∧Hid (PenS W0 w' pb d An cn Av cv As cs Ag cg Am cm br k (L++put1 1 row col q)∧Keeps w w') :=
 (Rs W0 w pb d An cn Av cv As cs Ag cg Am cm br k L h row col ir ic vb q hq lq hL).mono fun _ _ h=>⟨h.1,h.2.1⟩
end
section
open Go.RowKit Go.Maps
open Rat
theorem Keeps.pen {w w':World} (h:Keeps w w') {b:Nat} {q:Rat} (hq:RatB w b q):RatB w' b q:=h.1 b q hq
theorem Keeps.four {w w':World} (h:Keeps w w') {b:Nat} {u0 u1 u2 u3:Value} (hq:Blk w b #[u0,u1,u2,u3]):Blk w' b #[u0,u1,u2,u3]:=h.2.1 b _ rfl hq
theorem Keeps.nums {w w':World} (h:Keeps w w') {v:Value} {xs:List Nat} (hq:Nums w v xs):Nums w' v xs:=h.2.2 v xs hq
theorem Dd:LimQ 1 1099511627776:=⟨by decide,by decide⟩
def C7 (a0 a1 c dd:Int) (q:Rat):List StampP:=put1 1 a0 c q++(put1 1 a0 dd (-q)++(put1 1 a1 c (-q)++put1 1 a1 dd q))
set_option maxRecDepth 100000 in
theorem Fr (W0 w:World) (pb:Nat) (d:DevP) (An:Option Addr) (cn:Nat) (Av:Option Addr) (cv:Nat) (As:Option Addr) (cs:Nat) (Ag:Option Addr) (cg:Nat) (Am:Option Addr) (cm:Nat) (br:List Int) (k:Int) (L:List StampP) (h:PenS W0 w pb d An cn Av cv As cs Ag cg Am cm br k L) (hn:NodesOK d) (h2:2≤d.nodes.length) (c dd:Int) (ic:I64 c) (id':I64 dd) (yb:Nat) (q:Rat) (hq:RatB w yb q) (lq:LimQ q 1099511627776) (hL:L.length≤1000000) :
  Calls Tryz.prog 150 #[.pointer (some ⟨pb,0,none⟩),.int .i64 c,.int .i64 dd,.pointer (some ⟨yb,0,none⟩)] w fun e w'=>e=.returned (.tuple #[])∧Hid (PenS W0 w' pb d An cn Av cv As cs Ag cg Am cm br k (L++C7 (d.at 0) (d.at 1) c dd q)∧Keeps w w'):=by
 have HP:=Ac h
 have HN:=Ac hn
 have HY:=Ac hq
 have HLQ:=Ac lq
 have HLN:=Ac lq.neg
 have HK:=Ac (Keeps.refl w)
 have HI:=Ac (fun i=>hn.i64 i)
 have l1:=Fs L 1 (d.at 0) c q
 have l2:=Fs (L++put1 1 (d.at 0) c q) 1 (d.at 0) dd (-q)
 have l3:=Fs (L++put1 1 (d.at 0) c q++put1 1 (d.at 0) dd (-q)) 1 (d.at 1) c (-q)
 have hfin:L++put1 1 (d.at 0) c q++put1 1 (d.at 0) dd (-q)++put1 1 (d.at 1) c (-q)++put1 1 (d.at 1) dd q=L++C7 (d.at 0) (d.at 1) c dd q:=by unfold C7;simp only [List.append_assoc]
 have HFIN:=Ac hfin
 clear h hn hq lq hfin
 go_enter Tryz.func150,Tryz.ntmps150
 go_wp2_with fail
 refine (Be W0 w pb d An cn Av cv As cs Ag cg Am cm br k _ HP.out HN.out 0 (by omega) (by omega)).mono ?_
 rintro e w' ⟨rfl,rfl⟩
 go_wp2_with fail
 refine (Cg W0 w pb d An cn Av cv As cs Ag cg Am cm br k _ HP.out (d.at 0) c (HI.out 0) ic yb q HY.out HLQ.out (by omega)).mono ?_
 rintro e w1 ⟨rfl,h1⟩
 have HP:=Ac h1.out.1
 have HY:=Ac (h1.out.2.pen HY.out)
 have HK:=Ac (HK.out.trans h1.out.2)
 clear h1
 go_wp2_with fail
 refine (Be W0 w1 pb d An cn Av cv As cs Ag cg Am cm br k _ HP.out HN.out 0 (by omega) (by omega)).mono ?_
 rintro e w' ⟨rfl,rfl⟩
 go_wp2_with fail
 refine (C5 w1 yb q HY.out HLQ.out).mono ?_
 rintro e w2 ⟨nb',rfl,hnb,hgn⟩
 have HP:=Ac (HP.out.more hgn)
 have HY:=Ac (HY.out.more hgn)
 have HK:=Ac (HK.out.trans (Keeps.more hgn))
 have HNB:=Ac hnb
 clear hnb
 go_wp2_with fail
 refine (Cg W0 w2 pb d An cn Av cv As cs Ag cg Am cm br k _ HP.out (d.at 0) dd (HI.out 0) id' nb' (-q) HNB.out HLN.out (by omega)).mono ?_
 rintro e w3 ⟨rfl,h1⟩
 have HP:=Ac h1.out.1
 have HY:=Ac (h1.out.2.pen HY.out)
 have HK:=Ac (HK.out.trans h1.out.2)
 clear h1 HNB
 go_wp2_with fail
 refine (Be W0 w3 pb d An cn Av cv As cs Ag cg Am cm br k _ HP.out HN.out 1 (by omega) (by omega)).mono ?_
 rintro e w' ⟨rfl,rfl⟩
 go_wp2_with fail
 refine (C5 w3 yb q HY.out HLQ.out).mono ?_
 rintro e w4 ⟨nb',rfl,hnb,hgn⟩
 have HP:=Ac (HP.out.more hgn)
 have HY:=Ac (HY.out.more hgn)
 have HK:=Ac (HK.out.trans (Keeps.more hgn))
 have HNB:=Ac hnb
 clear hnb
 go_wp2_with fail
 refine (Cg W0 w4 pb d An cn Av cv As cs Ag cg Am cm br k _ HP.out (d.at 1) c (HI.out 1) ic nb' (-q) HNB.out HLN.out (by omega)).mono ?_
 rintro e w5 ⟨rfl,h1⟩
 have HP:=Ac h1.out.1
 have HY:=Ac (h1.out.2.pen HY.out)
 have HK:=Ac (HK.out.trans h1.out.2)
 clear h1 HNB
 go_wp2_with fail
 refine (Be W0 w5 pb d An cn Av cv As cs Ag cg Am cm br k _ HP.out HN.out 1 (by omega) (by omega)).mono ?_
 rintro e w' ⟨rfl,rfl⟩
 go_wp2_with fail
 refine (Cg W0 w5 pb d An cn Av cv As cs Ag cg Am cm br k _ HP.out (d.at 1) dd (HI.out 1) id' yb q HY.out HLQ.out (by omega)).mono ?_
 rintro e w6 ⟨rfl,h1⟩
 go_wp2_with fail
 go_end0
 exact ⟨rfl,Ac ⟨by rw [←HFIN.out];exact h1.out.1,HK.out.trans h1.out.2⟩⟩
theorem Hu:LimQ (-1) 1099511627776:=Dd.neg
def outL (a0 a1 j:Int):List StampP:=put1 1 a0 j 1++put1 1 a1 j (-1)
def Bw (a0 a1 j:Int):List StampP:=put1 1 j a0 1++put1 1 j a1 (-1)
set_option maxRecDepth 100000 in
theorem Dz (W0 w:World) (pb:Nat) (d:DevP) (An:Option Addr) (cn:Nat) (Av:Option Addr) (cv:Nat) (As:Option Addr) (cs:Nat) (Ag:Option Addr) (cg:Nat) (Am:Option Addr) (cm:Nat) (br:List Int) (k:Int) (L:List StampP) (h:PenS W0 w pb d An cn Av cv As cs Ag cg Am cm br k L) (hn:NodesOK d) (h2:2≤d.nodes.length) (hk0:0≤k) (hk1:k.toNat<br.length) (ij:I64 (br.getD k.toNat 0)) (hL:L.length≤1000000) :
  Calls Tryz.prog 153 #[.pointer (some ⟨pb,0,none⟩)] w fun e w'=>e=.returned (.tuple #[])∧Hid (PenS W0 w' pb d An cn Av cv As cs Ag cg Am cm br k (L++outL (d.at 0) (d.at 1) (br.getD k.toNat 0))∧Keeps w w'):=by
 have HP:=Ac h
 have HN:=Ac hn
 have HK:=Ac (Keeps.refl w)
 have HI:=Ac (fun i=>hn.i64 i)
 have HJ:=Ac ij
 have l1:=Fs L 1 (d.at 0) (br.getD k.toNat 0) 1
 have hfin:L++put1 1 (d.at 0) (br.getD k.toNat 0) 1++put1 1 (d.at 1) (br.getD k.toNat 0) (-1)=L++outL (d.at 0) (d.at 1) (br.getD k.toNat 0):=by unfold outL;simp only [List.append_assoc]
 have HFIN:=Ac hfin
 have hown:=fun w' L' (h':PenS W0 w' pb d An cn Av cv As cs Ag cg Am cm br k L')=>Da W0 w' pb d An cn Av cv As cs Ag cg Am cm br k L' h' hk0 hk1
 have HOWN:=Ac hown
 clear h hn hfin ij hown
 generalize br.getD k.toNat 0=J at *
 go_enter Tryz.func153,Tryz.ntmps153
 go_wp2_with fail
 refine (Be W0 w pb d An cn Av cv As cs Ag cg Am cm br k _ HP.out HN.out 0 (by omega) (by omega)).mono ?_
 rintro e w' ⟨rfl,rfl⟩
 go_wp2_with fail
 refine (HOWN.out w _ HP.out).mono ?_
 rintro e w1 ⟨rfl,hgn⟩
 have HP:=Ac (HP.out.more hgn)
 have HK:=Ac (HK.out.trans (Keeps.more hgn))
 clear hgn
 go_wp2_with fail
 refine (D6 w1).mono ?_
 rintro e w2 ⟨ob,rfl,hob,hgn⟩
 have HP:=Ac (HP.out.more hgn)
 have HK:=Ac (HK.out.trans (Keeps.more hgn))
 have HOB:=Ac hob
 clear hob hgn
 go_wp2_with fail
 refine (Cg W0 w2 pb d An cn Av cv As cs Ag cg Am cm br k _ HP.out (d.at 0) J (HI.out 0) HJ.out ob 1 HOB.out Dd (by omega)).mono ?_
 rintro e w3 ⟨rfl,h1⟩
 have HP:=Ac h1.out.1
 have HK:=Ac (HK.out.trans h1.out.2)
 clear h1
 go_wp2_with fail
 clear HOB
 refine (Be W0 w3 pb d An cn Av cv As cs Ag cg Am cm br k _ HP.out HN.out 1 (by omega) (by omega)).mono ?_
 rintro e w' ⟨rfl,rfl⟩
 go_wp2_with fail
 refine (HOWN.out w3 _ HP.out).mono ?_
 rintro e w4 ⟨rfl,hgn⟩
 have HP:=Ac (HP.out.more hgn)
 have HK:=Ac (HK.out.trans (Keeps.more hgn))
 clear hgn
 go_wp2_with fail
 refine (D6 w4).mono ?_
 rintro e w5 ⟨ob,rfl,hob,hgn⟩
 have HP:=Ac (HP.out.more hgn)
 have HK:=Ac (HK.out.trans (Keeps.more hgn))
 have HOB:=Ac hob
 clear hob hgn
 go_wp2_with fail
 refine (C5 w5 ob 1 HOB.out Dd).mono ?_
 rintro e w6 ⟨nb',rfl,hnb,hgn⟩
 have HP:=Ac (HP.out.more hgn)
 have HK:=Ac (HK.out.trans (Keeps.more hgn))
 have HNB:=Ac hnb
 clear hnb hgn
 go_wp2_with fail
 refine (Cg W0 w6 pb d An cn Av cv As cs Ag cg Am cm br k _ HP.out (d.at 1) J (HI.out 1) HJ.out nb' (-1) HNB.out Hu (by omega)).mono ?_
 rintro e w7 ⟨rfl,h1⟩
 go_wp2_with fail
 go_end0
 exact ⟨rfl,Ac ⟨by rw [←HFIN.out];exact h1.out.1,HK.out.trans h1.out.2⟩⟩
set_option maxRecDepth 100000 in
theorem Cv (W0 w:World) (pb:Nat) (d:DevP) (An:Option Addr) (cn:Nat) (Av:Option Addr) (cv:Nat) (As:Option Addr) (cs:Nat) (Ag:Option Addr) (cg:Nat) (Am:Option Addr) (cm:Nat) (br:List Int) (k:Int) (L:List StampP) (h:PenS W0 w pb d An cn Av cv As cs Ag cg Am cm br k L) (hn:NodesOK d) (h2:2≤d.nodes.length) (hk0:0≤k) (hk1:k.toNat<br.length) (ij:I64 (br.getD k.toNat 0)) (hL:L.length≤1000000) :
  Calls Tryz.prog 154 #[.pointer (some ⟨pb,0,none⟩)] w fun e w'=>e=.returned (.tuple #[])∧Hid (PenS W0 w' pb d An cn Av cv As cs Ag cg Am cm br k (L++Bw (d.at 0) (d.at 1) (br.getD k.toNat 0))∧Keeps w w'):=by
 have HP:=Ac h
 have HN:=Ac hn
 have HK:=Ac (Keeps.refl w)
 have HI:=Ac (fun i=>hn.i64 i)
 have HJ:=Ac ij
 have l1:=Fs L 1 (br.getD k.toNat 0) (d.at 0) 1
 have hfin:L++put1 1 (br.getD k.toNat 0) (d.at 0) 1++put1 1 (br.getD k.toNat 0) (d.at 1) (-1)=L++Bw (d.at 0) (d.at 1) (br.getD k.toNat 0):=by unfold Bw;simp only [List.append_assoc]
 have HFIN:=Ac hfin
 have hown:=fun w' L' (h':PenS W0 w' pb d An cn Av cv As cs Ag cg Am cm br k L')=>Da W0 w' pb d An cn Av cv As cs Ag cg Am cm br k L' h' hk0 hk1
 have HOWN:=Ac hown
 clear h hn hfin ij hown
 generalize br.getD k.toNat 0=J at *
 go_enter Tryz.func154,Tryz.ntmps154
 go_wp2_with fail
 refine (HOWN.out w _ HP.out).mono ?_
 rintro e w1 ⟨rfl,hgn⟩
 have HP:=Ac (HP.out.more hgn)
 have HK:=Ac (HK.out.trans (Keeps.more hgn))
 clear hgn
 go_wp2_with fail
 refine (Be W0 w1 pb d An cn Av cv As cs Ag cg Am cm br k _ HP.out HN.out 0 (by omega) (by omega)).mono ?_
 rintro e w' ⟨rfl,rfl⟩
 go_wp2_with fail
 refine (D6 w1).mono ?_
 rintro e w2 ⟨ob,rfl,hob,hgn⟩
 have HP:=Ac (HP.out.more hgn)
 have HK:=Ac (HK.out.trans (Keeps.more hgn))
 have HOB:=Ac hob
 clear hob hgn
 go_wp2_with fail
 refine (Cg W0 w2 pb d An cn Av cv As cs Ag cg Am cm br k _ HP.out J (d.at 0) HJ.out (HI.out 0) ob 1 HOB.out Dd (by omega)).mono ?_
 rintro e w3 ⟨rfl,h1⟩
 have HP:=Ac h1.out.1
 have HK:=Ac (HK.out.trans h1.out.2)
 clear h1
 go_wp2_with fail
 clear HOB
 refine (HOWN.out w3 _ HP.out).mono ?_
 rintro e w4 ⟨rfl,hgn⟩
 have HP:=Ac (HP.out.more hgn)
 have HK:=Ac (HK.out.trans (Keeps.more hgn))
 clear hgn
 go_wp2_with fail
 refine (Be W0 w4 pb d An cn Av cv As cs Ag cg Am cm br k _ HP.out HN.out 1 (by omega) (by omega)).mono ?_
 rintro e w' ⟨rfl,rfl⟩
 go_wp2_with fail
 refine (D6 w4).mono ?_
 rintro e w5 ⟨ob,rfl,hob,hgn⟩
 have HP:=Ac (HP.out.more hgn)
 have HK:=Ac (HK.out.trans (Keeps.more hgn))
 have HOB:=Ac hob
 clear hob hgn
 go_wp2_with fail
 refine (C5 w5 ob 1 HOB.out Dd).mono ?_
 rintro e w6 ⟨nb',rfl,hnb,hgn⟩
 have HP:=Ac (HP.out.more hgn)
 have HK:=Ac (HK.out.trans (Keeps.more hgn))
 have HNB:=Ac hnb
 clear hnb hgn
 go_wp2_with fail
 refine (Cg W0 w6 pb d An cn Av cv As cs Ag cg Am cm br k _ HP.out J (d.at 1) HJ.out (HI.out 1) nb' (-1) HNB.out Hu (by omega)).mono ?_
 rintro e w7 ⟨rfl,h1⟩
 go_wp2_with fail
 go_end0
 exact ⟨rfl,Ac ⟨by rw [←HFIN.out];exact h1.out.1,HK.out.trans h1.out.2⟩⟩
end
end Go.Proofs.YtmfmfpmkgmkgiaaGreatDoor
