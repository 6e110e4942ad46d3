/- BigC Own BigD BigE BigF. -/
import Derived.Test.YtckbiimikeiejaaGreatDoorMaa
import Derived.Deep.RegionWith
import Derived.Maps.AppendAt
import Derived.StillTailTactics
set_option linter.unusedVariables false
set_option linter.unusedSimpArgs false
set_option maxHeartbeats 40000000
namespace Go.Proofs.YtckbiimikeiejaaGreatDoor
section
open Go.RowKit
theorem A03 (w:World) (bz bx ox:Nat) (z x:Int) (v2:Value) (ys:List Nat) (hz:IntB w bz z) (hx:IntAt w bx ox x) (hy:Nums w v2 ys) (lx:lim x≤1099511627776) (ly:ys.length≤1099511627776) :
  Calls Tryz.prog 153 #[.pointer (some ⟨bz,0,none⟩),.pointer (some ⟨bx,ox,none⟩),.bool (decide (x<0)),v2] w fun e w'=>e=.returned (.pointer (some ⟨bz,0,none⟩))∧IntB w' bz (sg (decide (x<0)) (x.natAbs+val 4294967296 ys))∧w.grownBy w' (some bz):=by
 obtain ⟨vx,c0,c1,hnx⟩:=hx
 generalize decide (x<0)=neg at *
 go_enter Tryz.func153,Tryz.ntmps153
 go_wp2
 go_region_with (first
  | (go_at_call 230;refine (Wc _ vx v2 (digs x) ys hnx.drew hy.drew lx ly).mono ?_;rintro e w1 ⟨v,os,rfl,hv,hval,hg⟩;have g0:=Aj hg c0 (by simp))
  | (go_at_call 154;refine (Eh _ bz z neg v os (hz.drew.more hg) hv).mono ?_;rintro e w2 ⟨rfl,hi,hg2⟩))
 all_goals
  go_wp2
  go_ret
  rw [hval,By] at hi
  exact ⟨rfl,hi,B4 (Ae (C0 hg) hg2)⟩
theorem A01 (w:World) (bz bx ox:Nat) (z x:Int) (yneg:Bool) (v2:Value) (n:Nat) (hz:IntB w bz z) (hx:IntAt w bx ox x) (hy:Nums w v2 (dig 4294967296 n)) (hs:(decide (x<0)==yneg)=false) (hle:Hid (n≤x.natAbs)) (lx:lim x≤1099511627776) :
  Calls Tryz.prog 153 #[.pointer (some ⟨bz,0,none⟩),.pointer (some ⟨bx,ox,none⟩),.bool yneg,v2] w fun e w'=>e=.returned (.pointer (some ⟨bz,0,none⟩))∧IntB w' bz (sg (decide (x<0)) (x.natAbs-n))∧w.grownBy w' (some bz):=by
 obtain ⟨vx,c0,c1,hnx⟩:=hx
 have hc:Hid (0≤cmpL (digs x) (dig 4294967296 n)):=by
  unfold digs;rw [Kx];unfold cmpN;have:=hle.out;refine Ac ?_;rw [if_neg (by omega)];split<;>omega
 have hle2:Hid ((dig 4294967296 n).length≤(digs x).length∧val 4294967296 (dig 4294967296 n)≤val 4294967296 (digs x)):=by
  refine Ac ⟨?_,by rw [By,Ck _ (by omega)];exact hle.out⟩
  refine (Bz _ (by omega) _ _).2 (Nat.lt_of_le_of_lt hle.out ?_)
  exact (Ek x _).1 (Nat.le_refl _)
 generalize hnn:decide (x<0)=neg at *
 clear hnn
 go_enter Tryz.func153,Tryz.ntmps153
 go_wp2_with fail
 refine (Jj _ vx v2 (digs x) (dig 4294967296 n) hnx hy).mono ?_
 rintro e w' ⟨rfl,m,rfl⟩
 have hge:=hc.out
 generalize cmpL (digs x) (dig 4294967296 n)=c at *
 clear hc
 go_wp2_with fail
 go_region_with (first
  | (go_at_call 232;refine (Pq _ vx v2 (digs x) (dig 4294967296 n) (hnx.more (Ae (Az w m _) (Ai _ _))) (hy.more (Ae (Az w m _) (Ai _ _))) lx hle2).mono ?_;rintro e w1 ⟨v,os,rfl,hv,hval,hlen,hg⟩;have g0:=Aj (Ae (Az w m _) (B4 hg)) c0 (by simp))
  | (go_at_call 154;refine (Eh _ bz z neg v os (hz.more (Ae (Az w m _) (B4 hg))) hv).mono ?_;rintro e w2 ⟨rfl,hi,hg2⟩))
 all_goals
  go_wp2
  go_ret
  rw [By,Ck _ (by omega)] at hval
  rw [show val 4294967296 os=x.natAbs-n by omega] at hi
  exact ⟨rfl,hi,Ae (C0 (Ae (Az w m _) (B4 hg))) hg2⟩
theorem A02 (w:World) (bz bx ox:Nat) (z x:Int) (yneg:Bool) (v2:Value) (n:Nat) (hz:IntB w bz z) (hx:IntAt w bx ox x) (hy:Nums w v2 (dig 4294967296 n)) (hs:(decide (x<0)==yneg)=false) (hle:Hid (x.natAbs<n)) (ly:(dig 4294967296 n).length≤1099511627776) :
  Calls Tryz.prog 153 #[.pointer (some ⟨bz,0,none⟩),.pointer (some ⟨bx,ox,none⟩),.bool yneg,v2] w fun e w'=>e=.returned (.pointer (some ⟨bz,0,none⟩))∧IntB w' bz (sg yneg (n-x.natAbs))∧w.grownBy w' (some bz):=by
 obtain ⟨vx,c0,c1,hnx⟩:=hx
 have hc:Hid (cmpL (digs x) (dig 4294967296 n)<0):=by
  unfold digs;rw [Kx];unfold cmpN;have:=hle.out;refine Ac ?_;rw [if_pos (by omega)];omega
 have hle2:Hid ((digs x).length≤(dig 4294967296 n).length∧val 4294967296 (digs x)≤val 4294967296 (dig 4294967296 n)):=by
  have:=hle.out
  refine Ac ⟨?_,by rw [By,Ck _ (by omega)];omega⟩
  refine (Bz _ (by omega) _ _).2 (Nat.lt_of_le_of_lt (Nat.le_of_lt this) ?_)
  exact (Bz _ (by omega) _ _).1 (Nat.le_refl _)
 generalize hnn:decide (x<0)=neg at *
 clear hnn
 go_enter Tryz.func153,Tryz.ntmps153
 go_wp2_with fail
 refine (Jj _ vx v2 (digs x) (dig 4294967296 n) hnx hy).mono ?_
 rintro e w' ⟨rfl,m,rfl⟩
 have hge:=hc.out
 generalize cmpL (digs x) (dig 4294967296 n)=c at *
 clear hc
 go_wp2_with fail
 refine (Pq _ v2 vx (dig 4294967296 n) (digs x) (hy.more (Az w m _)) (hnx.more (Az w m _)) ly hle2).mono ?_
 rintro e w1 ⟨v,os,rfl,hv,hval,hlen,hg⟩
 go_wp2_with fail
 refine (Eh _ bz z yneg v os (hz.more (Ae (Az w m _) hg)) hv).mono ?_
 rintro e w2 ⟨rfl,hi,hg2⟩
 go_wp2
 go_ret
 rw [By,Ck _ (by omega)] at hval
 rw [show val 4294967296 os=n-x.natAbs by omega] at hi
 exact ⟨rfl,hi,Ae (C0 (Ae (Az w m _) hg)) hg2⟩
theorem Xp (w:World) (bz bx ox:Nat) (z x:Int) (yneg:Bool) (v2:Value) (n:Nat) (hz:IntB w bz z) (hx:IntAt w bx ox x) (hy:Nums w v2 (dig 4294967296 n)) (lx:lim x≤1099511627776) (ly:(dig 4294967296 n).length≤1099511627776) :
  Calls Tryz.prog 153 #[.pointer (some ⟨bz,0,none⟩),.pointer (some ⟨bx,ox,none⟩),.bool yneg,v2] w fun e w'=>e=.returned (.pointer (some ⟨bz,0,none⟩))∧IntB w' bz (x+sg yneg n)∧w.grownBy w' (some bz):=by
 by_cases hs:decide (x<0)=yneg
 ·subst hs
  refine (A03 w bz bx ox z x v2 _ hz hx hy lx ly).mono fun e w' ⟨a,b,c⟩=>⟨a,?_,c⟩
  rw [Ck _ (by omega)] at b
  have:sg (decide (x<0)) (x.natAbs+n)=x+sg (decide (x<0)) n:=by
   unfold sg;by_cases h:x<0<;>simp [h]<;>omega
  rwa [←this]
 ·have hs':(decide (x<0)==yneg)=false:=by simpa using hs
  by_cases hle:n≤x.natAbs
  ·refine (A01 w bz bx ox z x yneg v2 n hz hx hy hs' hle lx).mono fun e w' ⟨a,b,c⟩=>⟨a,?_,c⟩
   have:sg (decide (x<0)) (x.natAbs-n)=x+sg yneg n:=by
    unfold sg;cases yneg<;>by_cases h:x<0<;>simp [h] at hs ⊢ <;> omega
   rwa [←this]
  ·refine (A02 w bz bx ox z x yneg v2 n hz hx hy hs' (Nat.lt_of_not_le hle) ly).mono fun e w' ⟨a,b,c⟩=>⟨a,?_,c⟩
   have:sg yneg (n-x.natAbs)=x+sg yneg n:=by
    unfold sg;cases yneg<;>by_cases h:x<0<;>simp [h] at hs ⊢ <;> omega
   rwa [←this]
end
section
open Go.RowKit
def From (base:Nat) (v:Value):Prop:=∀ b,v.ownBlock=some b→base≤b
theorem From.mono {b b':Nat} {v:Value} (h:From b v) (hb:b'≤b):From b' v:=fun k hk=>Nat.le_trans hb (h k hk)
theorem D4 {w:World} {base:Nat} {e:TypeId} {size n:Nat} {v:Value} {xs:List Value} (h:w.ownsRow base e size v n xs):From base v:=by
 intro k hk
 rcases h.2 with ⟨rfl,_⟩ | ⟨g,cap,cur,rfl,hb,_⟩
 ·simp [Value.ownBlock] at hk
 ·have:g=k:=by simpa [Value.ownBlock] using hk
  omega
theorem E5 {w:World} {base:Nat} {e:TypeId} {n:Nat} {v:Value} {xs:List Value} (h:w.ownsRow base e 1 v n xs):Row w v xs:=by
 have hl:xs.length=n:=by have:=h.1;omega
 rcases h.2 with ⟨rfl,h0⟩ | ⟨g,cap,cur,rfl,_,hh,h1,h2,h3,h4⟩
 ·obtain rfl:xs=[]:=List.eq_nil_of_length_eq_zero (by omega)
  exact Row.nil w
 ·refine Row.mk hl.symm (by omega) (by simpa [maxLen] using h2) fun i hi=>?_
  rw [Ay hh,Nat.zero_add,←h4]
  rw [List.getElem?_take,if_pos (by omega)]
  simp
section
variable {P:Program} {ops:Array Oper} {rest:List Oper} {o:Oper} {a:Act} {Q:Exit→Act→World→Prop}
theorem Fq {W:World} (base:Nat) (hgd:o.guard=none) (s x:Operand) (t e:TypeId) (z:Value) (size bytes:Nat)
  (ho:o.op=.call { callee:=.builtin .append,args:=#[s,x],argTypes:=#[t,t] })
  (ht:P.underlying t=some (.slice e)) (hinfo:(P.info? e).map (fun i=>(i.zero,i.size,i.bytes))=some (some z,size,bytes)) (hz:z.cells.size=size) (hsz:0<size) (hb0:0<bytes)
  (v:Value) (n:Nat) (xs:List Value) (hs:a.eval s=v) (HO:W.ownsRow base e size v n xs)
  (A:Option Addr) (m c:Nat) (news:List Value) (hx:a.eval x=.slice A m c) (hl:news.length=m*size)
  (hread:0<m→∃ b o,A=some ⟨b,o,none⟩∧∀ j,j<m*size→W.cell? ⟨b,o+j,none⟩=news[j]?) (hA:A=none∨∃ a,A=some a) (h1:∀ u∈news,u.oneCell'=true)
  (hbytes:(n+m)*bytes≤140737488355328) (hbase:base≤W.heap.size)
  (h:∀ v1 w1,w1.ownsRow base e size v1 (n+m) (xs++news)→W.grownBy w1 v.ownBlock→(v1.ownBlock=v.ownBlock∨v1.ownBlock=some W.heap.size)→wpList P ops Q rest (a.put o.dst v1) w1) :
  wpList P ops Q (o::rest) a W:=by
 obtain ⟨i0,hi,hzz⟩:=Option.map_eq_some_iff.1 hinfo
 simp only [Prod.mk.injEq] at hzz
 obtain ⟨hz0,hz1,hz2⟩:=hzz
 have hlen:n+m≤140737488355328:=Nat.le_trans (Nat.le_mul_of_pos_right _ hb0) hbytes
 have hrun:∃ v1 w1,(Builtin.append_ #[t,t] o.type #[v,.slice A m c]).run P W=.ok v1 w1∧w1.ownsRow base e size v1 (n+m) (xs++news)∧W.grownBy w1 v.ownBlock∧(v1.ownBlock=v.ownBlock∨v1.ownBlock=some W.heap.size):=by
  rcases hA with rfl | ⟨ad,rfl⟩
  ·have h0:m=0:=by
    rcases Nat.eq_zero_or_pos m with h0 | h0
    ·exact h0
    ·obtain ⟨b,o,h,_⟩:=hread h0
     cases h
   subst h0
   obtain rfl:news=[]:=List.eq_nil_of_length_eq_zero (by simpa using hl)
   refine ⟨v,W,?_,by simpa using HO,World.grownBy.refl W _,.inl rfl⟩
   rcases HO.2 with ⟨rfl,hn⟩ | ⟨g,cap,cur,rfl,_,_,hnc,_⟩
   ·simp [Builtin.append_,run_underlying ht,sizeOf,typeInfo,hi,Builtin.lenOf,Builtin.firstCells]
   ·simp [Builtin.append_,run_underlying ht,sizeOf,typeInfo,hi,Builtin.lenOf,Builtin.firstCells,hnc,storeCells]
  ·have hcells:∀ j u,news[j]? = some u→W.cell? (ad.add j)=some u:=by
    intro j u hu
    have hj:j<news.length:=(List.getElem?_eq_some_iff.1 hu).1
    obtain ⟨b',o',h',hc⟩:=hread (by
     rcases Nat.eq_zero_or_pos m with h0 | h0
     ·subst h0;simp at hl;simp [hl] at hj
     ·exact h0)
    injection h' with h'
    subst h'
    have:=hc j (by omega)
    rw [hu] at this
    have e:(⟨b',o',none⟩:Addr).add j=⟨b',o'+j,none⟩:=by unfold Addr.add;split<;>simp_all
    rwa [e]
   obtain ⟨v1,w1,hr,h2,h3,_,h5⟩:=run_append_own_at (P:=P) W base t o.type e i0 z size bytes ht hi hz0 hz1 hz2 hz hsz v n xs HO ad m c news hl hcells h1 (by simp only [maxLen];omega) hbytes hbase
   exact ⟨v1,w1,hr,h2,h3,h5⟩
 obtain ⟨v1,w1,hr,hown,hg,hat⟩:=hrun
 refine wpList_plain hgd fun K hK=>?_
 unfold Oper.wp execOp
 simp only [ho,resolve,invoke,builtin,Sem.run_bind,Sem.run_pure,Result.andThen_ok,List.map_toArray,List.map_cons,List.map_nil,hs,hx,hr]
 exact hK _ _ (h v1 w1 hown hg hat)
theorem Fp {W:World} (base:Nat) (hgd:o.guard=none) (s x:Operand) (t e:TypeId) (z:Value) (size bytes:Nat)
  (ho:o.op=.call { callee:=.builtin .append,args:=#[s,x],argTypes:=#[t,t] })
  (ht:P.underlying t=some (.slice e)) (hinfo:(P.info? e).map (fun i=>(i.zero,i.size,i.bytes))=some (some z,size,bytes)) (hz:z.cells.size=size) (hsz:0<size) (hb0:0<bytes)
  (v:Value) (n:Nat) (xs:List Value) (ys:Array Value) (hs:a.eval s=v) (HO:W.ownsRow base e size v n xs)
  (hx:a.eval x=.slice (some ⟨W.heap.size,0,none⟩) 1 1) (hl:ys.toList.length=size) (h1:∀ u∈ys.toList,u.oneCell'=true)
  (hbytes:(n+1)*bytes≤140737488355328) (hbase:base≤W.heap.size)
  (h:∀ v1 w1,w1.ownsRow base e size v1 (n+1) (xs++ys.toList)→W.grownBy w1 v.ownBlock→(v1.ownBlock=v.ownBlock∨∃ b,v1.ownBlock=some b∧W.heap.size≤b)→wpList P ops Q rest (a.put o.dst v1) w1) :
  wpList P ops Q (o::rest) a (W.alloc (.cells ys e)):=by
 refine Fq base hgd s x t e z size bytes ho ht hinfo hz hsz hb0 v n xs hs (HO.alloc _) (some ⟨W.heap.size,0,none⟩) 1 1 ys.toList hx (by omega)
  (fun _=>⟨_,_,rfl,fun j hj=>by rw [Ay (Bi W _),Nat.zero_add];simp⟩) (.inr ⟨_,rfl⟩) h1 hbytes (by simp;omega) fun v1 w1 hown hg hat=>h v1 w1 hown (Ae (Af _ _ _) hg) ?_
 rcases hat with hat | hat
 ·exact .inl hat
 ·exact .inr ⟨_,hat,by simp⟩
end
end
section
open Go.RowKit
theorem A25 (z:Int) (neg:Bool) (h:decide (z<0)=neg):sg neg z.natAbs=z:=by subst h;exact Hp z
set_option maxRecDepth 100000 in
theorem Ge (w:World) (bz bx ox by' oy:Nat) (z x y:Int) (hz:IntB w bz z) (hx:IntAt w bx ox x) (hy:IntAt w by' oy y) (lx:lim x≤1099511627776) (ly:lim y≤1099511627776) :
  Calls Tryz.prog 72 #[.pointer (some ⟨bz,0,none⟩),.pointer (some ⟨bx,ox,none⟩),.pointer (some ⟨by',oy,none⟩)] w fun e w'=>e=.returned (.pointer (some ⟨bz,0,none⟩))∧IntB w' bz (x+y)∧w.grownBy w' (some bz):=by
 obtain ⟨vy,c0,c1,hn⟩:=hy
 generalize hneg:decide (y<0)=neg at *
 have HN:=Ac hneg
 clear hneg
 go_enter Tryz.func72,Tryz.ntmps72
 go_wp2
 go_still_tail 10,(by kernel_rfl)
 change wpList _ _ _ _ _ w.drew
 go_wp2_with fail
 refine (Xp _ bz bx ox z x neg vy y.natAbs hz.drew hx.drew hn.drew lx ly).mono ?_
 rintro e w2 ⟨rfl,hi,hg⟩
 go_wp2
 go_ret
 rw [A25 y neg HN.out] at hi
 exact ⟨rfl,hi,B4 hg⟩
set_option maxRecDepth 100000 in
theorem W8 (w:World) (bz bx ox:Nat) (z x:Int) (hz:IntB w bz z) (hx:IntAt w bx ox x) :
  Calls Tryz.prog 180 #[.pointer (some ⟨bz,0,none⟩),.pointer (some ⟨bx,ox,none⟩)] w fun e w'=>e=.returned (.pointer (some ⟨bz,0,none⟩))∧IntB w' bz (-x)∧w.grownBy w' (some bz):=by
 obtain ⟨vy,c0,c1,hn⟩:=hx
 generalize hneg:decide (x<0)=neg at *
 have HN:=Ac hneg
 clear hneg
 go_enter Tryz.func180,Tryz.ntmps180
 go_wp2
 go_still_tail 10,(by kernel_rfl)
 change wpList _ _ _ _ _ w.drew
 go_wp2_with fail
 refine (Eh _ bz z (!neg) vy (digs x) hz.drew hn.drew).mono ?_
 rintro e w2 ⟨rfl,hi,hg⟩
 go_wp2
 go_ret
 have:sg (!neg) (val 4294967296 (digs x)) = -x:=by
  rw [By,←HN.out];unfold sg;by_cases h:x<0<;>simp [h]<;>omega
 rw [this] at hi
 exact ⟨rfl,hi,B4 hg⟩
theorem W4 (w:World) (bz bx ox:Nat) (z x:Int) (hz:IntB w bz z) (hx:IntAt w bx ox x) :
  Calls Tryz.prog 181 #[.pointer (some ⟨bz,0,none⟩),.pointer (some ⟨bx,ox,none⟩)] w fun e w'=>e=.returned (.pointer (some ⟨bz,0,none⟩))∧IntB w' bz x.natAbs∧w.grownBy w' (some bz):=by
 obtain ⟨vy,c0,c1,hn⟩:=hx
 go_enter Tryz.func181,Tryz.ntmps181
 go_wp2_with fail
 refine (Eh _ bz z false vy (digs x) hz hn).mono ?_
 rintro e w2 ⟨rfl,hi,hg⟩
 go_wp2
 go_ret
 rw [By] at hi
 exact ⟨rfl,hi,hg⟩
/-! ### small readings -/
theorem Id (w:World) (bx ox:Nat) (x:Int) (hx:IntAt w bx ox x) :
  Calls Tryz.prog 157 #[.pointer (some ⟨bx,ox,none⟩)] w fun e w'=>e=.returned (.int .i64 x.sign)∧w=w':=by
 obtain ⟨vy,c0,c1,hn⟩:=hx
 obtain ⟨A,c,rfl,_,_⟩:=hn.form
 have hl:Hid ((digs x).length=0↔x=0):=Ac (Sf x)
 have hb:(digs x).length≤9223372036854775807:=by omega
 generalize (digs x).length=n at *
 have hcase:x=0∨x<0∨0<x:=by omega
 rcases hcase with h0 | h0 | h0
 ·subst h0
  obtain rfl:n=0:=hl.out.2 rfl
  clear hl hn
  simp only [Int.lt_irrefl,decide_false] at c0
  go_enter Tryz.func157,Tryz.ntmps157
  go_wp2
  go_ret
  exact ⟨rfl,rfl⟩
 ·have t:((n:Int)==0)=false:=by have:=hl.out;simp;omega
  rw [decide_eq_true h0] at c0
  rw [Int.sign_eq_neg_one_of_neg h0]
  clear hl hn h0
  go_enter Tryz.func157,Tryz.ntmps157
  go_wp2
  go_ret
  exact ⟨rfl,rfl⟩
 ·have t:((n:Int)==0)=false:=by have:=hl.out;simp;omega
  rw [decide_eq_false (by omega)] at c0
  rw [Int.sign_eq_one_of_pos h0]
  clear hl hn h0
  go_enter Tryz.func157,Tryz.ntmps157
  go_wp2
  go_ret
  exact ⟨rfl,rfl⟩
theorem Ri (w:World) (bx ox:Nat) (x:Int) (hx:IntAt w bx ox x) :
  Calls Tryz.prog 156 #[.pointer (some ⟨bx,ox,none⟩)] w fun e w'=>e=.returned (.int .i64 (lim x))∧w=w':=by
 obtain ⟨vy,c0,c1,hn⟩:=hx
 obtain ⟨A,c,rfl,_,_⟩:=hn.form
 unfold lim
 have hb:(digs x).length≤9223372036854775807:=by omega
 go_enter Tryz.func156,Tryz.ntmps156
 go_wp2
 go_ret
 exact ⟨rfl,rfl⟩
theorem Yp (x:Int):x≠0→∃ r,digs x=x.natAbs % 4294967296::r:=by
 intro h
 exact ⟨_,by unfold digs;rw [G8 _ _ (by omega) (by omega)]⟩
theorem P9 (w:World) (bx ox:Nat) (x:Int) (hx:IntAt w bx ox x) :
  Calls Tryz.prog 267 #[.pointer (some ⟨bx,ox,none⟩)] w fun e w'=>e=.returned (.bool (decide (x.natAbs % 2=1)))∧w=w':=by
 obtain ⟨vy,c0,c1,hn⟩:=hx
 by_cases h0:x=0
 ·obtain ⟨A,c,rfl,_,_⟩:=hn.form
  subst h0
  simp only [Wo,List.length_nil] at c1
  go_enter Tryz.func267,Tryz.ntmps267
  go_wp2
  go_ret
  exact ⟨rfl,rfl⟩
 ·obtain ⟨r,hr⟩:=Yp x h0
  rw [hr] at hn
  obtain ⟨A,c,rfl,h1,h2,hread⟩:=hn.read
  obtain ⟨b,o,rfl,hc⟩:=hread (by simp)
  have hc0:=hc 0 (by simp)
  clear hc hread
  simp only [List.getElem?_cons_zero,Option.getD_some,Nat.add_zero] at hc0
  have hpos:0<(x.natAbs % 4294967296::r).length:=by simp
  have hm:Hid (x.natAbs % 4294967296 % 2=x.natAbs % 2):=Ac (by omega)
  generalize (x.natAbs % 4294967296::r).length=n at *
  have hdlt:x.natAbs % 4294967296<4294967296:=Nat.mod_lt _ (by omega)
  generalize x.natAbs % 4294967296=d at *
  clear hn hr h0
  go_enter Tryz.func267,Tryz.ntmps267
  go_wp2
  go_ret
  refine ⟨Ao ?_,rfl⟩
  have e:=u32_and_nat d 1 (by omega) (by omega)
  rw [show bits BinOp.and IntKind.u32 (↑d) 1=((d &&& 1:Nat):Int) from e,Nat.and_one_is_mod,hm.out,Bool.eq_iff_iff]
  simp
  omega
theorem Rr (w:World) (bx ox:Nat) (x:Int) (hx:IntAt w bx ox x) (lx:lim x≤1099511627776) :
  Calls Tryz.prog 158 #[.pointer (some ⟨bx,ox,none⟩)] w fun e w'=>∃ v,e=.returned v∧Nums w' v (digs x)∧From w.heap.size v∧w.grownBy w' none:=by
 obtain ⟨vy,c0,c1,hn⟩:=hx
 have lx':(digs x).length≤1099511627776:=lx
 obtain ⟨A,c,rfl,h1,h2,hread⟩:=hn.read
 have c1':=Aj (Af w (.cells #[] 56) none) c1 (by simp)
 go_enter Tryz.func158,Tryz.ntmps158
 go_wp2_with (at_builtin;refine Fq w.heap.size rfl _ _ 47 56 (.int .u32 0) 1 4 rfl Tryz.underlying47 Fh rfl (by omega) (by omega) _ 0 [] rfl (World.ownsRow_lit w #[] 0 (Nat.le_refl _) (by decide) rfl) A (digs x).length c (u32s (digs x)) rfl (by simp [u32s]) ?c1 hn.addr (by simp [u32s,Value.oneCell']) (by omega) (by simp) ?_)
 case c1 =>
  intro hp
  obtain ⟨b,o,rfl,hc⟩:=hread hp
  refine ⟨b,o,rfl,fun j hj=>?_⟩
  rw [Hd _ _ (by omega)]
  exact Aj (Af w _ none) (hc j (by omega)) (by simp)
 intro v1 w1 hown hg hat
 go_wp2
 go_ret
 exact ⟨_,rfl,⟨E5 hown,Vl x⟩,D4 hown,Aw (Af w _ none) hg (Nat.le_refl _)⟩
theorem Pu (u:Nat) (hu:u<18446744073709551616):val 4294967296 [u % 4294967296,u/4294967296 % 4294967296]=u:=by
 simp only [val];omega
theorem Sg (w:World) (e:TypeId) (a b:Nat) (x y:Int) (hx:x=(a:Int)) (hy:y=(b:Int)) (ha:a<4294967296) (hb:b<4294967296):Nums (w.alloc (.cells #[.int .u32 x,.int .u32 y] e)) (.slice (some ⟨w.heap.size,0,none⟩) 2 2) [a,b]:=by
 subst hx hy
 refine Nums.mk rfl (by simp) (by omega) (fun i hi=>?_) (by simp;omega)
 rw [Ay (Bi w _)]
 match i,hi with
 | 0,_=>rfl
 | 1,_=>rfl
theorem C3 (w:World) (v:Int) (h1:-9223372036854775808≤v) (h2:v≤9223372036854775807) :
  Calls Tryz.prog 74 #[.int .i64 v] w fun e w'=>∃ b,e=.returned (.pointer (some ⟨b,0,none⟩))∧IntB w' b v∧w.heap.size≤b∧w.grownBy w' none:=by
 by_cases hn:v<0
 ·have ht:decide (v<0)=true:=by simp [hn]
  go_enter Tryz.func74,Tryz.ntmps74
  go_wp2_with fail
  have hl:=Sg w 56 (v.natAbs % 4294967296) (v.natAbs/4294967296 % 4294967296) (IntKind.u64.wrap (-IntKind.u64.wrap v) % 4294967296) (IntKind.u64.wrap (-IntKind.u64.wrap v)/4294967296 % 4294967296)
   (by rw [Ee,Ee];omega) (by rw [Ee,Ee];omega) (by omega) (by omega)
  refine (Hc _ _ _ hl).mono ?_
  rintro e w1 ⟨v',rfl,hv,rfl⟩
  obtain ⟨A,c,rfl,_,_⟩:=hv.form
  clear hl
  go_wp2
  go_ret
  rw [Pu v.natAbs (by omega)] at hv ⊢
  refine ⟨_,rfl,⟨_,158,by rw [ht];exact Gu _ (by simp),hv.more (Af _ _ _)⟩,by simp,Ae (Af _ _ _) (Af _ _ _)⟩
 ·have ht:decide (v<0)=false:=by simp;omega
  go_enter Tryz.func74,Tryz.ntmps74
  go_wp2_with fail
  have hl:=Sg w 56 (v.natAbs % 4294967296) (v.natAbs/4294967296 % 4294967296) (v % 4294967296) (v/4294967296) (by omega) (by omega) (by omega) (by omega)
  refine (Hc _ _ _ hl).mono ?_
  rintro e w1 ⟨v',rfl,hv,rfl⟩
  obtain ⟨A,c,rfl,_,_⟩:=hv.form
  clear hl
  go_wp2
  go_ret
  rw [Pu v.natAbs (by omega)] at hv ⊢
  refine ⟨_,rfl,⟨_,158,by rw [ht];exact Gu _ (by simp),hv.more (Af _ _ _)⟩,by simp,Ae (Af _ _ _) (Af _ _ _)⟩
end
section
open Go.RowKit
theorem Nb (w:World) (neg:Bool) (v:Value) (xs:List Nat) (hx:Nums w v xs) (lx:xs.length≤1099511627776) :
  Calls Tryz.prog 152 #[.bool neg,v] w fun e w'=>∃ b,e=.returned (.pointer (some ⟨b,0,none⟩))∧IntB w' b (sg neg (val 4294967296 xs))∧w.heap.size≤b∧w.grownBy w' none:=by
 obtain ⟨A,c,rfl,h1,h2,hread⟩:=hx.read
 cases neg
 all_goals
  go_enter Tryz.func152,Tryz.ntmps152
  go_wp2_with (at_builtin;refine Fq w.heap.size rfl _ _ 47 56 (.int .u32 0) 1 4 rfl Tryz.underlying47 Fh rfl (by omega) (by omega) _ 0 [] rfl (World.ownsRow_lit w #[] 0 (Nat.le_refl _) (by decide) rfl) A xs.length c (u32s xs) rfl (by simp [u32s]) ?c1 hx.addr (by simp [u32s,Value.oneCell']) (by omega) (by simp) ?_)
  case c1 =>
   intro hp
   obtain ⟨b,o,rfl,hc⟩:=hread hp
   refine ⟨b,o,rfl,fun j hj=>?_⟩
   rw [Hd _ _ (by omega)]
   exact Aj (Af w _ none) (hc j (by omega)) (by simp)
  intro v1 w1 hown hg _
  have hn:Nums w1 v1 xs:=⟨E5 hown,hx.2⟩
  have hgg:w.grownBy w1 none:=Aw (Af w _ none) hg (Nat.le_refl _)
  clear hown hg hread
  go_wp2_with fail
  refine (Hc _ _ _ hn).mono ?_
  rintro e w2 ⟨v',rfl,hv,rfl⟩
  obtain ⟨A',c',rfl,_,_⟩:=hv.form
  clear hn
  go_wp2
  go_ret
  have hz:decide (0<(dig 4294967296 (val 4294967296 xs)).length)=decide (val 4294967296 xs≠0):=by
   have:=Fa 4294967296 (by omega) (val 4294967296 xs)
   rw [decide_eq_decide];omega
  refine ⟨_,rfl,⟨.slice A' (dig 4294967296 (val 4294967296 xs)).length c',158,?_,?_⟩,hgg.size,?_⟩
  ·rw [V5,←hz]
   first | exact Gu _ rfl | (rw [C4 (Gu _ rfl)];rfl) | trace_state
  ·rw [Qp]
   first | exact hv.more (Af _ _ _) | exact hv.more (Aw (Af _ _ _) (Au _ _ _ _) (Nat.le_refl _))
  ·first | exact Ae hgg (Af _ _ _) | exact Ae hgg (Aw (Af _ _ _) (Au _ _ _ _) (Nat.le_refl _))
/-! ### Mul -/
theorem Zf {os:List Nat} {p i j a y c V W:Nat} (hp:p=i+j) (hlt:p<os.length) (h:val 4294967296 os+4294967296 ^ p*c=V+4294967296 ^ i*(a*W)) :
  val 4294967296 (os.set p ((a*y+os[p]?.getD 0+c) % 4294967296))+4294967296 ^ (p+1)*((a*y+os[p]?.getD 0+c)/4294967296)=V+4294967296 ^ i*(a*(W+4294967296 ^ j*y)):=by
 have e:=N3 4294967296 os p ((a*y+os[p]?.getD 0+c) % 4294967296) hlt
 have d:=Nat.mod_add_div (a*y+os[p]?.getD 0+c) 4294967296
 have hpp:4294967296 ^ p=4294967296 ^ i*4294967296 ^ j:=by rw [hp,Nat.pow_add]
 generalize (a*y+os[p]?.getD 0+c) % 4294967296=r at *
 generalize (a*y+os[p]?.getD 0+c)/4294967296=q at *
 generalize os[p]?.getD 0=u at *
 rw [Nat.pow_succ]
 generalize val 4294967296 (os.set p r)=s at *
 generalize val 4294967296 os=t at *
 have d2:4294967296 ^ p*r+4294967296 ^ p*4294967296*q=4294967296 ^ p*(a*y)+4294967296 ^ p*u+4294967296 ^ p*c:=by
  have:4294967296 ^ p*(r+4294967296*q)=4294967296 ^ p*(a*y+u+c):=by rw [d]
  grind
 have d3:4294967296 ^ p*(a*y)=4294967296 ^ i*(a*(4294967296 ^ j*y)):=by rw [hpp];grind
 have d4:4294967296 ^ i*(a*(W+4294967296 ^ j*y))=4294967296 ^ i*(a*W)+4294967296 ^ i*(a*(4294967296 ^ j*y)):=by grind
 rw [d4,←d3]
 omega
theorem Xa {a y u c:Nat} (ha:a<4294967296) (hy:y<4294967296) (hu:u<4294967296) (hc:c<4294967296):a*y+u+c≤18446744073709551615:=by
 have:a*y≤4294967295*4294967295:=Nat.mul_le_mul (by omega) (by omega)
 omega
theorem X8 {os xs ys:List Nat} {k j x' y' u cy:Nat}
  (h:os.length=xs.length+ys.length∧(∀ d∈os,d<4294967296)∧(∀ p,k+ys.length≤p→os[p]?.getD 0=0)∧val 4294967296 os+4294967296 ^ (k+j)*cy=val 4294967296 (xs.take k)*val 4294967296 ys+4294967296 ^ k*(x'*val 4294967296 (ys.take j)))
  (hk:k<xs.length) (hj:j<ys.length) (hy:ys[j]?.getD 0=y') (hu:os[k+j]?.getD 0=u) :
  let r:=os.set (k+j) ((x'*y'+u+cy) % 4294967296)
  r.length=xs.length+ys.length∧(∀ d∈r,d<4294967296)∧(∀ p,k+ys.length≤p→r[p]?.getD 0=0)∧val 4294967296 r+4294967296 ^ (k+(j+1))*((x'*y'+u+cy)/4294967296)=val 4294967296 (xs.take k)*val 4294967296 ys+4294967296 ^ k*(x'*val 4294967296 (ys.take (j+1))):=by
 obtain ⟨h1,h2,h3,h4⟩:=h
 refine ⟨by simpa using h1,Ey h2 _ _ (Nat.mod_lt _ (by omega)),fun p hp=>by rw [List.getElem?_set_ne (by omega)];exact h3 p hp,?_⟩
 have:=Zf (j:=j) (y:=y') rfl (by omega) h4
 rw [hu] at this
 rw [B7,List.getD_eq_getElem?_getD,hy]
 exact this
theorem X9 {os xs ys:List Nat} {k x' cy:Nat}
  (h:os.length=xs.length+ys.length∧(∀ d∈os,d<4294967296)∧(∀ p,k+ys.length≤p→os[p]?.getD 0=0)∧val 4294967296 os+4294967296 ^ (k+ys.length)*cy=val 4294967296 (xs.take k)*val 4294967296 ys+4294967296 ^ k*(x'*val 4294967296 (ys.take ys.length)))
  (hk:k<xs.length) (hc:cy<4294967296) (hx:xs[k]?.getD 0=x') :
  let r:=os.set (k+ys.length) cy
  r.length=xs.length+ys.length∧(∀ d∈r,d<4294967296)∧(∀ p,k+1+ys.length≤p→r[p]?.getD 0=0)∧val 4294967296 r=val 4294967296 (xs.take (k+1))*val 4294967296 ys:=by
 obtain ⟨h1,h2,h3,h4⟩:=h
 refine ⟨by simpa using h1,Ey h2 _ _ hc,fun p hp=>by rw [List.getElem?_set_ne (by omega)];exact h3 p (by omega),?_⟩
 have:=N3 4294967296 os (k+ys.length) cy (by omega)
 rw [h3 _ (Nat.le_refl _)] at this
 rw [List.take_length] at h4
 rw [B7,List.getD_eq_getElem?_getD,hx]
 show val 4294967296 (os.set (k+ys.length) cy)=_
 have e:(val 4294967296 (xs.take k)+4294967296 ^ k*x')*val 4294967296 ys=val 4294967296 (xs.take k)*val 4294967296 ys+4294967296 ^ k*(x'*val 4294967296 ys):=by grind
 omega
set_option maxRecDepth 100000 in
theorem Ct (w:World) (bz bx ox by' oy:Nat) (z x y:Int) (hz:IntB w bz z) (hx:IntAt w bx ox x) (hy:IntAt w by' oy y) (lx:lim x≤1099511627776) (ly:lim y≤1099511627776) :
  Calls Tryz.prog 73 #[.pointer (some ⟨bz,0,none⟩),.pointer (some ⟨bx,ox,none⟩),.pointer (some ⟨by',oy,none⟩)] w fun e w'=>e=.returned (.pointer (some ⟨bz,0,none⟩))∧IntB w' bz (x*y)∧w.grownBy w' (some bz):=by
 obtain ⟨vx,c0,c1,hnx⟩:=hx
 obtain ⟨vy,d0,d1,hny⟩:=hy
 have bxs:=hnx.lt
 have bys:=hny.lt
 have HX:Hid (sg (decide (x<0)) (val 4294967296 (digs x))=x):=Ac (by rw [By];exact Hp x)
 have HY:Hid (sg (decide (y<0)) (val 4294967296 (digs y))=y):=Ac (by rw [By];exact Hp y)
 have lx':(digs x).length≤1099511627776:=lx
 have ly':(digs y).length≤1099511627776:=ly
 generalize digs x=xs at *
 generalize digs y=ys at *
 generalize decide (x<0)=nx at *
 generalize decide (y<0)=ny at *
 clear lx ly
 obtain ⟨A,c,rfl,h1,h2,hA⟩:=hnx.read
 obtain ⟨A',c',rfl,h1',h2',hA'⟩:=hny.read
 have hmk:=Fx (P:=Tryz.prog) 47 56 Tryz.underlying47 Fh (xs.length+ys.length) (by omega) ((xs.length:Int)+(ys.length:Int)) (by omega)
 go_enter Tryz.func73,Tryz.ntmps73
 go_wp2
 have hs:IntKind.i64.wrap ((xs.length:Int)+(ys.length:Int))=(xs.length:Int)+(ys.length:Int):=IntWalk.i64_in _ (by omega)
 go_still_tail 11,(by kernel_rfl)
 clear hs
 change wpList _ _ _ _ _ w.drew
 have g0:w.grownBy w.drew none:=Ai w _
 generalize w.drew=wd at *
 have g1:w.grownBy (wd.alloc (M8 (xs.length+ys.length) 56)) none:=Ae g0 (Af _ _ _)
 have e1:=Aj g1 c1 (by simp)
 have ge:w.heap.size≤wd.heap.size:=g0.size
 go_wp2
 go_loopw [31] (fun i wr=>∃ (k:Nat) (os:List Nat),k≤xs.length∧i=.int .i64 k∧w.grownBy wr none∧OwnNums wr wd.heap.size os∧
   Hid (os.length=xs.length+ys.length∧(∀ d∈os,d<4294967296)∧(∀ p,k+ys.length≤p→os[p]?.getD 0=0)∧val 4294967296 os=val 4294967296 (xs.take k)*val 4294967296 ys)) (fun i _=>xs.length-(intOf i).toNat)
 case atStart=>exact ⟨0,_,by omega,rfl,g1,OwnNums.made _ _ _,by simp,by simp,fun p _=>by simp [List.getElem?_replicate];split<;>rfl,by simp [val,I5]⟩
 case round =>
  obtain ⟨k,os,hk,rfl,hg,ho,hv⟩:=hrel
  clear hmk e1 g1
  by_cases hlt:k<xs.length
  ·obtain ⟨b,o,rfl,hc⟩:=hA (by omega)
   have q1:=Aj hg (hc k hlt) (by simp)
   have q2:=Aj hg d1 (by simp)
   have b1:=bxs k
   clear hc hA bxs
   generalize hxk:xs[k]?.getD 0=x' at q1 b1
   have HXK:=Ac hxk
   clear hxk
   go_wp2
   obtain ⟨wo,rfl⟩:∃ wo:World,wo=wr:=⟨_,rfl⟩
   go_loopw [10,41] (fun cv jv wr=>∃ (j cy:Nat) (os:List Nat),j≤ys.length∧jv=.int .i64 j∧cv=.int .u64 cy∧cy<4294967296∧w.grownBy wr none∧OwnNums wr wd.heap.size os∧
    Hid (os.length=xs.length+ys.length∧(∀ d∈os,d<4294967296)∧(∀ p,k+ys.length≤p→os[p]?.getD 0=0)∧val 4294967296 os+4294967296 ^ (k+j)*cy=val 4294967296 (xs.take k)*val 4294967296 ys+4294967296 ^ k*(x'*val 4294967296 (ys.take j)))) (fun _ jv _=>ys.length-(intOf jv).toNat)
   case atStart=>exact ⟨0,0,os,by omega,rfl,rfl,by omega,hg,ho,hv.out.1,hv.out.2.1,hv.out.2.2.1,by simp [val];exact hv.out.2.2.2⟩
   case round =>
    clear ho hv hg q1 q2
    obtain ⟨j,cy,os,hj,rfl,rfl,hcy,hg,ho,hv⟩:=hrel
    by_cases hjt:j<ys.length
    ·obtain ⟨b',o',rfl,hc'⟩:=hA' (by omega)
     have q1:=Aj hg (hc' j hjt) (by simp)
     have q3:=ho.cell (k+j) (by rw [hv.out.1];omega)
     have q4:=ho.free (k+j)
     have b2:=bys j
     have b3:=Eq (B:=4294967296) (by omega) hv.out.2.1 (k+j)
     rw [List.getD_eq_getElem?_getD] at b3
     clear hc' hA' bys
     generalize hyk:ys[j]?.getD 0=y' at q1 b2
     generalize huk:os[k+j]?.getD 0=u at q3 b3
     have HYK:=Ac hyk
     have HUK:=Ac huk
     clear hyk huk
     have b4:(0:Int)≤(x':Int)*(y':Int):=by have:=Int.natCast_nonneg (x'*y');rwa [Int.natCast_mul] at this
     have b5:(x':Int)*(y':Int)≤18446744065119617025:=by
      have:x'*y'≤4294967295*4294967295:=Nat.mul_le_mul (by omega) (by omega)
      rw [←Int.natCast_mul];omega
     go_wp2
     refine ⟨⟨j+1,(x'*y'+u+cy)/4294967296,_,by omega,by go_num,Bl (by rw [←Int.natCast_mul];omega),?_,Aw hg (Au _ _ _ _) ge,ho.set' (k+j) ((x'*y'+u+cy) % 4294967296) _ (by rw [←Int.natCast_mul];omega),Ac (X8 hv.out hlt hjt HYK.out HUK.out)⟩,by simp [intOf];omega⟩
     have:=Xa b1 b2 b3 hcy
     generalize x'*y'=t at *
     omega
    ·obtain rfl:j=ys.length:=by omega
     have q2:=Aj hg d1 (by simp)
     have q3:=ho.cell (k+ys.length) (by rw [hv.out.1];omega)
     have q4:=ho.free (k+ys.length)
     clear hA' bys
     go_wp2
     exact ⟨⟨k+1,_,by omega,by go_num,Aw hg (Au _ _ _ _) ge,ho.set' (k+ys.length) cy _ rfl,Ac (X9 hv.out hlt hcy HXK.out)⟩,by simp [intOf];omega⟩
  ·obtain rfl:k=xs.length:=by omega
   have q1:=Aj hg c0 (by simp)
   have q2:=Aj hg d0 (by simp)
   clear hA hA' bxs bys
   go_wp2
   go_still_tail 11,(by kernel_rfl)
   change wpList _ _ _ _ _ wr.drew
   go_wp2_with fail
   obtain ⟨v1,v2,_,v4⟩:=hv.out
   have hn:=ho.nums v2 (n:=xs.length+ys.length) (c:=xs.length+ys.length) v1.symm (by omega) (by omega)
   refine (Eh _ bz z (nx != ny) _ os (hz.more (Ae hg (Ai _ _))) hn.drew).mono ?_
   rintro e w2 ⟨rfl,hi,hg2⟩
   go_wp2
   go_ret
   rw [v4,List.take_length] at hi
   have:sg (nx != ny) (val 4294967296 xs*val 4294967296 ys)=x*y:=by
    rw [←HX.out,←HY.out];unfold sg;cases nx<;>cases ny<;>simp<;>grind
   rw [this] at hi
   exact ⟨rfl,hi,Ae (C0 (Ae hg (Ai _ _))) hg2⟩
end
section
open Go.RowKit
theorem V7 {xs q:List Nat} {k d x r:Nat} (hd:0<d) (hk:k<xs.length) (hx:xs[k]?.getD 0=x)
  (h:q.length=xs.length∧(∀ e∈q,e<4294967296)∧val 4294967296 (q.drop (k+1))=val 4294967296 (xs.drop (k+1))/d∧r=val 4294967296 (xs.drop (k+1)) % d) (hd2:d<4294967296) (hx2:x<4294967296) :
  (q.set k ((r*4294967296+x)/d)).length=xs.length∧(∀ e∈q.set k ((r*4294967296+x)/d),e<4294967296)∧
   val 4294967296 ((q.set k ((r*4294967296+x)/d)).drop k)=val 4294967296 (xs.drop k)/d∧(r*4294967296+x) % d=val 4294967296 (xs.drop k) % d:=by
 obtain ⟨h1,h2,h3,h4⟩:=h
 have hr:r<d:=by rw [h4];exact Nat.mod_lt _ hd
 have hq:(r*4294967296+x)/d<4294967296:=by
  rw [Nat.div_lt_iff_lt_mul hd]
  have:(r+1)*4294967296≤d*4294967296:=Nat.mul_le_mul_right _ hr
  omega
 have e1:val 4294967296 (xs.drop k)=(r*4294967296+x)+d*(4294967296*(val 4294967296 (xs.drop (k+1))/d)):=by
  rw [Hf _ _ _ hk,hx,h4]
  have:=Nat.mod_add_div (val 4294967296 (xs.drop (k+1))) d
  generalize val 4294967296 (xs.drop (k+1)) % d=r' at *
  generalize val 4294967296 (xs.drop (k+1))/d=q' at *
  rw [←this]
  grind
 refine ⟨by simpa using h1,Ey h2 _ _ hq,?_,?_⟩
 ·rw [Li _ _ _ _ (by omega),h3,e1,Nat.add_mul_div_left _ _ hd]
 ·rw [e1,Nat.add_mul_mod_self_left]
theorem Qw (r x:Nat) (hr:r<4294967296) (hx:x<4294967296):bits .or .u64 ((r:Int)*4294967296) (x:Int)=((r*4294967296+x:Nat):Int):=by
 rw [show (r:Int)*4294967296=((r*4294967296:Nat):Int) by omega]
 rw [bits_or_u64_nat _ _ (by omega) (by omega)]
 have:=Nat.two_pow_add_eq_or_of_lt (i:=32) (by simpa using hx) r
 rw [Nat.mul_comm r 4294967296]
 exact congrArg (fun n:Nat=>(n:Int)) this.symm
theorem Tg (w:World) (v1:Value) (xs:List Nat) (d:Nat) (hx:Nums w v1 xs) (hl:xs.length≤1099511627776) (hd:0<d) (hd2:d<4294967296) :
  Calls Tryz.prog 243 #[v1,.int .u32 d] w fun e w'=>∃ v q,e=.returned (.tuple #[v,.int .u32 (val 4294967296 xs % d:Nat)])∧Nums w' v q∧val 4294967296 q=val 4294967296 xs/d∧q.length=xs.length∧w.grownBy w' none:=by
 have bx:=hx.lt
 obtain ⟨A,c,rfl,h1,h2,hA⟩:=hx.read
 have hmk:=Fx (P:=Tryz.prog) 47 56 Tryz.underlying47 Fh xs.length (by omega) (xs.length:Int) rfl
 have t:((d:Int)==0)=false:=by simp;omega
 go_enter Tryz.func243,Tryz.ntmps243
 go_wp2
 go_loopw [7,8] (fun rv i wr=>∃ (k r:Nat) (os:List Nat),k≤xs.length∧i=.int .i64 ((k:Int)-1)∧rv=.int .u64 r∧r<d∧w.grownBy wr none∧OwnNums wr w.heap.size os∧
   Hid (os.length=xs.length∧(∀ e∈os,e<4294967296)∧val 4294967296 (os.drop k)=val 4294967296 (xs.drop k)/d∧r=val 4294967296 (xs.drop k) % d)) (fun _ i _=>(intOf i+1).toNat)
 case atStart=>exact ⟨xs.length,0,_,by omega,rfl,rfl,by omega,Af _ _ _,OwnNums.made _ _ _,by simp,by simp,by simp [val],by simp [val]⟩
 case round =>
  obtain ⟨k,r,os,hk,rfl,rfl,hr,hg,ho,hv⟩:=hrel
  clear hmk
  by_cases hlt:0<k
  ·obtain ⟨m,rfl⟩:∃ m,k=m+1:=⟨k-1,by omega⟩
   obtain ⟨b,o,rfl,hc⟩:=hA (by omega)
   have g1:=Aj hg (hc m (by omega)) (by simp)
   have g2:=ho.cell m (by rw [hv.out.1];omega)
   have g3:=ho.free m
   have b1:=bx m
   clear hc hA bx
   generalize hxk:xs[m]?.getD 0=x at g1 b1
   have HX:=Ac hxk
   clear hxk
   have e1:(((m+1:Nat):Int)-1)=(m:Int):=by omega
   rw [e1]
   have e2:=Qw r x (by omega) b1
   have b2:r*4294967296+x≤18446744073709551615:=by omega
   have hs:=V7 hd (show m<xs.length by omega) HX.out hv.out hd2 b1
   have b3:(r*4294967296+x)/d<4294967296:=by
    rw [Nat.div_lt_iff_lt_mul hd]
    have:(r+1)*4294967296≤d*4294967296:=Nat.mul_le_mul_right _ hr
    omega
   have b4:(r*4294967296+x) % d<d:=Nat.mod_lt _ hd
   have HS:=Ac hs
   clear hs HX hv e1
   generalize r*4294967296+x=t at *
   go_wp2
   exact ⟨⟨m,t % d,_,by omega,rfl,Bl (by rw [Int.natCast_emod]),b4,Aw hg (Au _ _ _ _) (Nat.le_refl _),ho.set' m (t/d) _ (by rw [Ee,←Int.natCast_ediv];clear HS;generalize t/d=q at *;omega),HS⟩,by simp [intOf]⟩
  ·obtain rfl:k=0:=by omega
   go_wp2
   go_ret2
   obtain ⟨v1,v2,v3,v4⟩:=hv.out
   rw [List.drop_zero,List.drop_zero] at v3
   rw [List.drop_zero] at v4
   exact ⟨_,os,by rw [v4];rfl,ho.nums v2 v1.symm (by omega) (by omega),v3,v1,hg⟩
/-! ### shift: a word more, some bits up -/
theorem Zk {k:Nat} (hk:k≤32):2 ^ k≤4294967296:=by
 have:=Nat.pow_le_pow_right (n:=2) (by omega) hk
 simpa using this
theorem or32 (u v:Nat) (k:Nat) (hk:k≤32) (hu:u<2 ^ k) (hv:v % 2 ^ k=0) (hv2:v<4294967296):bits .or .u32 (u:Int) (v:Int)=((u+v:Nat):Int):=by
 have hu2:u<4294967296:=Nat.lt_of_lt_of_le hu (by have:=Nat.pow_le_pow_right (n:=2) (by omega) hk;simpa using this)
 rw [u32_or_nat _ _ hu2 hv2]
 have e:=Nat.two_pow_add_eq_or_of_lt hu (v/2 ^ k)
 have:2 ^ k*(v/2 ^ k)=v:=by have:=Nat.mod_add_div v (2 ^ k);omega
 rw [this] at e
 rw [Nat.or_comm u v,←e,Nat.add_comm]
theorem Vs {x k:Nat} (hk:k<32):x*2 ^ k % 4294967296 % 2 ^ k=0:=by
 have:4294967296=2 ^ k*2 ^ (32-k):=by rw [←Nat.pow_add,show k+(32-k)=32 by omega]
 rw [this,Nat.mod_mul_right_mod,Nat.mul_mod_left]
theorem V6 {os xs:List Nat} {j k x:Nat} (hk:k<32)
  (h:os.length=xs.length+1∧(∀ e∈os,e<4294967296)∧val 4294967296 (os.take (j+1))=val 4294967296 (xs.take j)*2 ^ k∧os[j]?.getD 0<2 ^ k) (hj:j<xs.length) (hx:xs[j]?.getD 0=x) (hx2:x<4294967296) :
  let r:=(os.set j (os[j]?.getD 0+x*2 ^ k % 4294967296)).set (j+1) (x*2 ^ k/4294967296)
  r.length=xs.length+1∧(∀ e∈r,e<4294967296)∧val 4294967296 (r.take (j+1+1))=val 4294967296 (xs.take (j+1))*2 ^ k∧r[j+1]?.getD 0<2 ^ k:=by
 obtain ⟨h1,h2,h3,h4⟩:=h
 have e1:x*2 ^ k/4294967296<2 ^ k:=by
  rw [Nat.div_lt_iff_lt_mul (by omega),Nat.mul_comm]
  exact (Nat.mul_lt_mul_left (Nat.two_pow_pos k)).2 hx2
 have e2:2 ^ k≤4294967296:=Zk (by omega)
 have e3:os[j]?.getD 0+x*2 ^ k % 4294967296<4294967296:=by
  have m1:x*2 ^ k % 4294967296 % 2 ^ k=0:=Vs hk
  have m2:x*2 ^ k % 4294967296<4294967296:=Nat.mod_lt _ (by omega)
  have m3:4294967296=2 ^ k*2 ^ (32-k):=by rw [←Nat.pow_add,show k+(32-k)=32 by omega]
  generalize x*2 ^ k % 4294967296=t at *
  obtain ⟨q,rfl⟩:=Nat.dvd_of_mod_eq_zero m1
  have:q<2 ^ (32-k):=by
   rw [m3] at m2
   exact (Nat.mul_lt_mul_left (Nat.two_pow_pos k)).1 m2
  have:2 ^ k*(q+1)≤2 ^ k*2 ^ (32-k):=Nat.mul_le_mul_left _ this
  rw [←m3,Nat.mul_add] at this
  omega
 refine ⟨by simpa using h1,Ey (Ey h2 _ _ e3) _ _ (by omega),?_,?_⟩
 ·rw [Ds _ _ _ _ (by simp;omega),Ds _ _ _ _ (by omega),B7,List.getD_eq_getElem?_getD,hx]
  rw [B7,List.getD_eq_getElem?_getD] at h3
  have d:=Nat.mod_add_div (x*2 ^ k) 4294967296
  rw [Nat.pow_succ]
  generalize x*2 ^ k % 4294967296=a at *
  generalize x*2 ^ k/4294967296=b at *
  have e:(val 4294967296 (List.take j xs)+4294967296 ^ j*x)*2 ^ k=val 4294967296 (List.take j xs)*2 ^ k+4294967296 ^ j*(x*2 ^ k):=by grind
  rw [e,←h3,←d]
  generalize 4294967296 ^ j=p at *
  grind
 ·rw [List.getElem?_set_self (by simp;omega)]
  exact e1
theorem Mo (w:World) (v1:Value) (xs:List Nat) (k:Nat) (hx:Nums w v1 xs) (hl:xs.length≤1099511627776) (hk:k<32) :
  Calls Tryz.prog 268 #[v1,.int .u64 k] w fun e w'=>∃ g os,e=.returned (.slice (some ⟨g,0,none⟩) (xs.length+1) (xs.length+1))∧OwnNums w' g os∧(∀ d∈os,d<4294967296)∧val 4294967296 os=val 4294967296 xs*2 ^ k∧os.length=xs.length+1∧w.heap.size≤g∧w.grownBy w' none:=by
 have bx:=hx.lt
 obtain ⟨A,c,rfl,h1,h2,hA⟩:=hx.read
 have hmk:=Fx (P:=Tryz.prog) 47 56 Tryz.underlying47 Fh (xs.length+1) (by omega) ((xs.length:Int)+1) (by omega)
 go_enter Tryz.func268,Tryz.ntmps268
 go_wp2
 go_loopw [15] (fun i wr=>∃ (j:Nat) (os:List Nat),j≤xs.length∧i=.int .i64 j∧w.grownBy wr none∧OwnNums wr w.heap.size os∧
   Hid (os.length=xs.length+1∧(∀ e∈os,e<4294967296)∧val 4294967296 (os.take (j+1))=val 4294967296 (xs.take j)*2 ^ k∧os[j]?.getD 0<2 ^ k)) (fun i _=>xs.length-(intOf i).toNat)
 case atStart=>exact ⟨0,_,by omega,rfl,Af _ _ _,OwnNums.made _ _ _,by simp,by simp,by rw [List.take_replicate,I5];simp [val],by simp;exact Nat.two_pow_pos k⟩
 case round =>
  obtain ⟨j,os,hj,rfl,hg,ho,hv⟩:=hrel
  clear hmk
  by_cases hlt:j<xs.length
  ·obtain ⟨b,o,rfl,hc⟩:=hA (by omega)
   have g1:=Aj hg (hc j hlt) (by simp)
   have g2:=ho.cell j (by rw [hv.out.1];omega)
   have g3:=ho.free j
   have g4:=ho.cell (j+1) (by rw [hv.out.1];omega)
   have g5:=ho.free (j+1)
   have b1:=bx j
   clear hc hA bx
   generalize hxk:xs[j]?.getD 0=x at g1 b1
   have HX:=Ac hxk
   clear hxk
   go_wp2
   have ht:x*2 ^ k<18446744073709551616:=by
    have h2k:2 ^ k≤4294967296:=Zk (by omega)
    have:x*2 ^ k≤4294967295*4294967296:=Nat.mul_le_mul (by omega) h2k
    omega
   have e0:(x:Int)*2 ^ k=((x*2 ^ k:Nat):Int):=by rw [Int.natCast_mul,Int.natCast_pow];rfl
   have hs:=V6 (by omega) hv.out hlt HX.out b1
   rw [e0,Ee]
   exact ⟨⟨j+1,_,by omega,by go_num,Aw (Aw hg (Au _ _ _ _) (Nat.le_refl _)) (Au _ _ _ _) (Nat.le_refl _),(ho.set' j (os[j]?.getD 0+x*2 ^ k % 4294967296) _ (by
     rw [←or32 _ _ k (by omega) hv.out.2.2.2 (Vs (by omega)) (Nat.mod_lt _ (by omega))];congr 1;omega)).set' (j+1) (x*2 ^ k/4294967296) _ (by omega),hs⟩,by simp [intOf];omega⟩
  ·obtain rfl:j=xs.length:=by omega
   go_wp2
   go_ret
   obtain ⟨v1,v2,v3,v4⟩:=hv.out
   rw [Ce _ os _ (by omega),List.take_length] at v3
   exact ⟨_,os,rfl,ho,v2,v3,v1,Nat.le_refl _,hg⟩
end
end Go.Proofs.YtckbiimikeiejaaGreatDoor
