/- SumC SumD. -/
import Derived.Test.YtckbiimikeiejaaGreatDoorMaz
import Derived.Test.YtckbiimikeiejaaGreatDoorMae
import Derived.Test.YtckbiimikeiejaaGreatDoorMad
import Derived.Laws.IdiomRangeMap
set_option linter.unusedVariables false
set_option linter.unusedSimpArgs false
set_option maxHeartbeats 40000000
namespace Go.Proofs.YtckbiimikeiejaaGreatDoor
section
open Go.RowKit Go.Maps
open Rat
theorem Fj {w:World} {ops:Array Oper} {rest:List Oper} {o:Oper} {a:Act} {Q:Exit→Act→World→Prop} (hg:o.guard=none) (m x:Operand) (hop:o.op=Op.lookup 129 m x true)
  {mb N:Nat} {F:Int→Option Nat} (c:Int) (hc:I64 c) (h:MapB w mb N F) (hm:a.eval m=.map (some mb)) (hx:a.eval x=.int .i64 c) (u:Value) (b:Bool) (hu:O9 (F c)=u) (hb:(F c).isSome=b)
  (hK:wpList Tryz.prog ops Q rest (a.put o.dst (.tuple #[u,.bool b])) w):wpList Tryz.prog ops Q (o::rest) a w:=by
 subst hu hb
 refine wpList_plain hg fun K' hK'=>?_
 unfold Oper.wp
 simp [execOp,hop,hm,hx,(h.look hc).1,Result.andThen]
 exact hK' _ _ hK
theorem P6 {w:World} {ops:Array Oper} {rest:List Oper} {o:Oper} {a:Act} {Q:Exit→Act→World→Prop} (hg:o.guard=none) (m x:Operand) (hop:o.op=Op.lookup 129 m x false)
  {mb N:Nat} {F:Int→Option Nat} (c:Int) (hc:I64 c) (h:MapB w mb N F) (hm:a.eval m=.map (some mb)) (hx:a.eval x=.int .i64 c) (u:Value) (hu:O9 (F c)=u)
  (hK:wpList Tryz.prog ops Q rest (a.put o.dst u) w):wpList Tryz.prog ops Q (o::rest) a w:=by
 subst hu
 refine wpList_plain hg fun K' hK'=>?_
 unfold Oper.wp
 simp [execOp,hop,hm,hx,(h.look hc).2,Result.andThen]
 exact hK' _ _ hK
theorem Mx {w:World} {ops:Array Oper} {rest:List Oper} {o:Oper} {a:Act} {Q:Exit→Act→World→Prop} (hg:o.guard=none) (m x v:Operand) (hop:o.op=Op.mapUpdate 129 m x v)
  {mb N b:Nat} {F:Int→Option Nat} (c:Int) (hc:I64 c) (h:MapB w mb N F) (hn:N<maxLen) (hm:a.eval m=.map (some mb)) (hx:a.eval x=.int .i64 c) (hv:a.eval v=.pointer (some ⟨b,0,none⟩))
  (hK:∀ w',MapB w' mb (N+1) (putF F c b)→w.grownBy w' (some mb)→wpList Tryz.prog ops Q rest (a.put o.dst undef) w'):wpList Tryz.prog ops Q (o::rest) a w:=by
 refine wpList_plain hg fun K' hK'=>?_
 obtain ⟨w',hrun,r1,r2⟩:=h.put (b:=b) hc hn
 unfold Oper.wp
 simp [execOp,hop,hm,hx,hv,hrun,Result.andThen]
 exact hK' _ _ (hK w' r1 r2)
def Soft (w:World) (r:Nat):Prop:=Dt w r∧∀ n,w.cell? ⟨r,0,none⟩≠some (.int .i64 n)
structure StayR (w w':World):Prop where
 nums:∀ v xs,Nums w v xs→Nums w' v xs
 ints:∀ b o v n,w.cell? ⟨b,0,none⟩=some (.int .i64 n)→w.cell? ⟨b,o,none⟩=some v→w'.cell? ⟨b,o,none⟩=some v
theorem StayR.refl (w:World):StayR w w:=⟨fun _ _ h=>h,fun _ _ _ _ _ h=>h⟩
theorem StayR.trans {a b c:World} (h:StayR a b) (k:StayR b c):StayR a c:=⟨fun v xs hv=>k.nums v xs (h.nums v xs hv),fun b o v n h0 h1=>k.ints b o v n (h.ints b 0 _ n h0 h0) (h.ints b o v n h0 h1)⟩
theorem StayR.none {a b:World} (h:a.grownBy b none):StayR a b:=⟨fun v xs hv=>hv.more h,fun b o v n h0 h1=>Aj h h1 (by simp)⟩
theorem StayR.row {a b:World} {r:Nat} (h:a.grownBy b (some r)) (hs:Soft a r):StayR a b :=
 ⟨fun v xs hv=>hv.other h hs.1,fun b o v n h0 h1=>Aj h h1 (by intro e;injection e with e;subst e;exact hs.2 n h0)⟩
theorem RatB.soft {w:World} {b:Nat} {q:Rat} (h:RatB w b q):Soft w b:=by
 refine ⟨h.plain,fun n=>?_⟩
 obtain ⟨vn,vd,d,T,_,hb,_⟩:=h
 rw [Ay hb];simp
theorem Sk {w:World} {mb:Nat} {es:Array MapEntry} {cl:Nat} (h:w.heap[mb]? = some (.map es cl)):Soft w mb:=⟨Gh h,fun n=>by simp [World.cell?,h]⟩
theorem SumsE.soft {w:World} {base rb:Nat} {ms:List (Option Nat)} {E:Nat→Int→Option (Nat × Rat)} {N:Nat} (h:SumsE w base rb ms E N):Soft w rb:=by
 refine ⟨h.plain,fun n=>?_⟩
 obtain ⟨T,hr⟩:=h.rows
 rw [Ay hr]
 cases h0:ms[0]? <;> simp [h0]
structure Bel (base:Nat) (w w':World):Prop where
 below:Below base w w'
 stay:StayR w w'
theorem Bel.size {base:Nat} {w w':World} (h:Bel base w w'):w.heap.size≤w'.heap.size:=h.below.size
theorem Bel.trans {base:Nat} {a b c:World} (h:Bel base a b) (k:Bel base b c):Bel base a c:=⟨h.below.trans k.below,h.stay.trans k.stay⟩
theorem Gg {w w':World} {base r:Nat} (hg:w.grownBy w' (some r)) (hs:Soft w r) (hr:base≤r) (hb:base≤w.heap.size):Bel base w w' :=
 ⟨⟨hg.os,hg.tape,hg.output,hg.size,fun k hk=>hg.block k (by omega) (by simp;omega)⟩,StayR.row hg hs⟩
theorem Cy {w w':World} {base:Nat} (hg:w.grownBy w' none) (hb:base≤w.heap.size):Bel base w w' :=
 ⟨⟨hg.os,hg.tape,hg.output,hg.size,fun k hk=>hg.block k (by omega) (by simp)⟩,StayR.none hg⟩
theorem Qh {w:World} {base rb n N b:Nat} {L:List StampP} {x:StampP} {ms:List (Option Nat)} {E:Nat→Int→Option (Nat × Rat)} {w2 w3:World}  (hms:ms.length=n*5)
  (hS:SumsE w base rb ms E N) (hN:N≤L.length+1) (hE:E x.cellAt x.col=some (b,accQ L x.cellAt x.col)) (hsnd:∀ i c,¬ (i=x.cellAt∧c=x.col)→(E i c).map Prod.snd=if hasQ L i c then some (accQ L i c) else none)
  (g2:w.grownBy w2 none) (hr:RatB w3 b (accQ L x.cellAt x.col+x.val)) (g3:w2.grownBy w3 (some b)):SumsS w3 base rb n (L++[x]):=by
 refine ⟨ms,putE E x.cellAt x.col b (accQ L x.cellAt x.col+x.val),hms,((hS.more g2).setRat hE hr g3).mono (by simpa using hN),fun i c=>?_⟩
 rw [Wr,Wb]
 by_cases hh:i=x.cellAt∧c=x.col
 ·obtain ⟨rfl,rfl⟩:=hh
  have hb:hitB x.cellAt x.col x=true:=Fw.2 ⟨rfl,rfl⟩
  simp [putE,hb]
 ·have hb:hitB i c x=false:=by
   cases hx:hitB i c x with
   | false=>rfl
   | true=>obtain ⟨h1,h2⟩:=Fw.1 hx;exact absurd ⟨h1.symm,h2.symm⟩ hh
  rw [hb]
  simp only [putE,if_neg hh,hsnd i c hh,Bool.or_false]
  simp [Rat.add_zero]
theorem Ld {L:List StampP} {E:Nat→Int→Option (Nat × Rat)} (h:∀ i c,(E i c).map Prod.snd=if hasQ L i c then some (accQ L i c) else none) {i:Nat} {c:Int} {b:Nat} {q:Rat} (hE:E i c=some (b,q)):q=accQ L i c:=by
 have:=h i c
 rw [hE] at this
 split at this
 ·simpa using this
 ·simp at this
theorem Lc {L:List StampP} {E:Nat→Int→Option (Nat × Rat)} (h:∀ i c,(E i c).map Prod.snd=if hasQ L i c then some (accQ L i c) else none) {i:Nat} {c:Int} (hE:E i c=none):accQ L i c=0:=by
 have:=h i c
 rw [hE] at this
 split at this
 ·simp at this
 ·rename_i hh;exact Wa (by simpa using hh)
set_option maxRecDepth 100000 in
theorem Uz (w:World) (base rb n r kk K:Nat) (L:List StampP) (x:StampP) (A1 A2:Option Addr) (n1 c1 n2 c2:Nat) (hS:SumsS w base rb n L) (hb0:base≤w.heap.size) (hx:I64 x.col) (hn1:Nums w (.slice A1 n1 c1) (digs x.val.num)) (hn2:Nums w (.slice A2 n2 c2) (digs (x.val.den:Int)))
  (hr:x.row=(r:Int)) (hrn:r<n) (hn48:n≤48) (hk:x.kind=(kk:Int)) (hk5:kk<5) (hL:LimL L K) (hlx:LimQ x.val K) (hkb:2*(L.length*(K+2)+1+K)+1≤549755813888) (hll:L.length<1000000) :
  Calls Tryz.prog 58 #[.pointer (some ⟨rb,r*5,none⟩),.agg #[.int .i64 (kk:Int),.int .i64 (r:Int),.int .i64 x.col,.bool (decide (x.val.num<0)),.slice A1 n1 c1,.bool false,.slice A2 n2 c2]] w fun e w'=>e=.returned (.tuple #[])∧SumsS w' base rb n (L++[x])∧Bel base w w':=by
 obtain ⟨ms,E,hms,hE,hsnd⟩:=hS
 have hca:x.cellAt=r*5+kk:=by unfold StampP.cellAt;rw [hr,hk];omega
 have hil:r*5+kk<ms.length:=by omega
 have gb:=Af w (.cells #[.int .i64 (kk:Int),.int .i64 (r:Int),.int .i64 x.col,.bool (decide (x.val.num<0)),.slice A1 n1 c1,.bool false,.slice A2 n2 c2] 128) none
 have hB:=Blk.new w #[.int .i64 (kk:Int),.int .i64 (r:Int),.int .i64 x.col,.bool (decide (x.val.num<0)),.slice A1 n1 c1,.bool false,.slice A2 n2 c2] 128
 have HLX:=Ac hlx
 have HKB:=Ac hkb
 have HLA:Hid (LimQ (accQ L x.cellAt x.col) (L.length*(K+2)+1)):=Ac (Kr hL _ _)
 have HMS:=Ac hms
 have HSND:=Ac hsnd
 have HCA:=Ac hca
 have HLL:=Ac hll
 have hmm:=@run_makeMap Tryz.prog
 have hslt:rb<w.heap.size:=by obtain ⟨T,h⟩:=hE.rows;exact Dq h
 have i0:(0:Int)≤(kk:Int):=by omega
 have i1:(kk:Int)<5:=by omega
 have b0:=hB.cell 0
 have b2:=hB.cell 2
 have b3:=hB.cell 3
 have b4:=hB.cell 4
 have b5:=hB.cell 5
 have b6:=hB.cell 6
 simp only [List.getElem?_toArray,List.getElem?_cons_zero,List.getElem?_cons_succ] at b0 b2 b3 b4 b5 b6
 have HB:=Ac hB
 have HEE:=Ac hE
 have HN1:=Ac hn1
 have HN2:=Ac hn2
 clear hE hn1 hn2 hL hlx hkb hsnd hms hB
 cases hmi:ms[r*5+kk]? with
 | none=>rw [List.getElem?_eq_none_iff] at hmi;omega
 | some om =>
 have hcell:=Aj gb (HEE.out.cell hmi) (by simp)
 have hfree:=(HEE.out.more gb).free (r*5+kk)
 have HGB:=Ac gb
 clear gb
 have hne:¬ w.heap.size=rb:=by omega
 have hne2:¬ rb=w.heap.size:=by omega
 go_enter Tryz.func58,Tryz.ntmps58
 go_wp2_with fail
 go_quiet (fail)
 have hbe1:∀ W:World,(binOp BinOp.eql 129 (Value.map none) (Value.map none)).run Tryz.prog W=.ok (.bool true) W:=fun _=>by kernel_rfl
 have hbe2:∀ (m:Nat) (W:World),(binOp BinOp.eql 129 (Value.map (some m)) (Value.map none)).run Tryz.prog W=.ok (.bool false) W:=fun _ _=>by kernel_rfl
 have gq:w.grownBy ((w.alloc (.cells #[.int .i64 (kk:Int),.int .i64 (r:Int),.int .i64 x.col,.bool (decide (x.val.num<0)),.slice A1 n1 c1,.bool false,.slice A2 n2 c2] 128)).drewN nq) none:=Ae HGB.out (Az _ _ _)
 have hBq:=HB.out.more (Az (w.alloc (.cells #[.int .i64 (kk:Int),.int .i64 (r:Int),.int .i64 x.col,.bool (decide (x.val.num<0)),.slice A1 n1 c1,.bool false,.slice A2 n2 c2] 128)) nq none)
 have hszq:((w.alloc (.cells #[.int .i64 (kk:Int),.int .i64 (r:Int),.int .i64 x.col,.bool (decide (x.val.num<0)),.slice A1 n1 c1,.bool false,.slice A2 n2 c2] 128)).drewN nq).heap.size=w.heap.size+1:=by simp
 have hcell:((w.alloc (.cells #[.int .i64 (kk:Int),.int .i64 (r:Int),.int .i64 x.col,.bool (decide (x.val.num<0)),.slice A1 n1 c1,.bool false,.slice A2 n2 c2] 128)).drewN nq).cell? ⟨rb,r*5+kk,none⟩=some (.map om):=hcell
 have hfree:((w.alloc (.cells #[.int .i64 (kk:Int),.int .i64 (r:Int),.int .i64 x.col,.bool (decide (x.val.num<0)),.slice A1 n1 c1,.bool false,.slice A2 n2 c2] 128)).drewN nq).frozen? ⟨rb,r*5+kk,none⟩=false:=hfree
 generalize (w.alloc (.cells #[.int .i64 (kk:Int),.int .i64 (r:Int),.int .i64 x.col,.bool (decide (x.val.num<0)),.slice A1 n1 c1,.bool false,.slice A2 n2 c2] 128)).drewN nq=wq at *
 generalize hsz:w.heap.size=s at *
 have HGQ:=Ac gq
 have HBQ:=Ac hBq
 have HE1:=Ac (HEE.out.more gq)
 clear HB HGB gq
 have b0:=hBq.cell 0
 have b2:=hBq.cell 2
 have b3:=hBq.cell 3
 have b4:=hBq.cell 4
 have b5:=hBq.cell 5
 have b6:=hBq.cell 6
 simp only [List.getElem?_toArray,List.getElem?_cons_zero,List.getElem?_cons_succ] at b0 b2 b3 b4 b5 b6
 clear hBq
 have HBL:=Ac (Cy HGQ.out (by rw [hsz];exact hb0))
 cases om with
 | none =>
  go_wp2_with fail
  have ga:=Af wq (.map #[] 0) none
  have hE4:=HE1.out.more ga
  have hM4:=(MapB.made wq).mono (Nat.zero_le L.length)
  have b0:=Aj ga b0 (by simp)
  have b2:=Aj ga b2 (by simp)
  have b3:=Aj ga b3 (by simp)
  have b4:=Aj ga b4 (by simp)
  have b5:=Aj ga b5 (by simp)
  have b6:=Aj ga b6 (by simp)
  have hcell:=Aj ga hcell (by simp)
  have hfree:=hE4.free (r*5+kk)
  have hnew:∀ j:Nat,ms[j]?≠some (some (s+1)):=fun j hj=>by have:=(HE1.out.maps _ _ hj).2.lt;omega
  have hsz4:(wq.alloc (.map #[] 0)).heap.size=s+1+1:=by rw [World.size_alloc,hszq]
  have HBL:=Ac (HBL.out.trans (Cy ga (by rw [hszq];omega)))
  have HW:=Ac (And.intro (HN1.out.more (Ae HGQ.out ga)) (HN2.out.more (Ae HGQ.out ga)))
  have HNW:=Ac hnew
  rw [hszq] at hM4
  clear hE4 hnew ga
  have HE4:=Ac (HE1.out.more (Af wq (.map #[] 0) none))
  generalize wq.alloc (.map #[] 0)=wa at *
  go_still_tail 7,(by kernel_rfl)
  change wpList _ _ _ _ _ wa.drew
  have hE4:=HE4.out.more (Ai _ _)
  have hM4:=hM4.kept (Ai wa none) (by simp)
  have HW:=Ac (And.intro (HW.out.1.more (Ai _ _)) (HW.out.2.more (Ai _ _)))
  have HBL:=Ac (HBL.out.trans (Cy (Ai wa none) (by rw [hsz4];omega)))
  have hcell:wa.drew.cell? ⟨rb,r*5+kk,none⟩=some (.map none):=hcell
  have hfree:wa.drew.frozen? ⟨rb,r*5+kk,none⟩=false:=hfree
  have b2:wa.drew.cell? ⟨s,2,none⟩=_:=b2
  have b3:wa.drew.cell? ⟨s,3,none⟩=_:=b3
  have b4:wa.drew.cell? ⟨s,4,none⟩=_:=b4
  have b5:wa.drew.cell? ⟨s,5,none⟩=_:=b5
  have b6:wa.drew.cell? ⟨s,6,none⟩=_:=b6
  have hsz4:wa.drew.heap.size=s+1+1:=hsz4
  clear HE4
  have HE4:=Ac hE4
  clear hE4
  generalize wa.drew=wb at *
  obtain ⟨hE5,hg5⟩:=HE4.out.newMap hmi hM4 HNW.out (by omega)
  have gd:=hg5
  have b2:=Aj gd b2 (by simp;omega)
  have b3:=Aj gd b3 (by simp;omega)
  have b4:=Aj gd b4 (by simp;omega)
  have b5:=Aj gd b5 (by simp;omega)
  have b6:=Aj gd b6 (by simp;omega)
  have hpr:=HE4.out.plain
  have HW:=Ac (And.intro (HW.out.1.other gd hpr) (HW.out.2.other gd hpr))
  have hszq:(wb.setCell ⟨rb,r*5+kk,none⟩ (.map (some (s+1)))).heap.size=s+1+1:=by simp [World.setCell];exact hsz4
  have HBL:=Ac (HBL.out.trans (Gg gd HE4.out.soft HE4.out.rbase (by rw [hsz4];omega)))
  have HE1:=Ac hE5
  have hmi2:(ms.set (r*5+kk) (some (s+1)))[r*5+kk]? = some (some (s+1)):=by rw [List.getElem?_set_self hil]
  have hEc:=HE4.out.nil _ x.col hmi
  have hmap:=(HE1.out.maps _ _ hmi2).2
  have hmbs:s+1<s+1+1:=by omega
  clear hE5 hg5 hpr gd hM4 hsz4 HE4 b0 hmi
  go_wp2_with (first
   | (at_lookup;refine Fj rfl _ _ rfl x.col hx hmap rfl rfl (.pointer none) false (by rw [hEc];rfl) (by rw [hEc];rfl) ?_)
   | (at_mapUpdate;refine Mx (b:=(s+1+1)) rfl _ _ _ rfl x.col hx (hmap.kept (Af _ _ none) (by simp)) (by unfold maxLen;omega) rfl rfl rfl ?_;intro w3 hm3 hg3;have b3:=Aj hg3 (Aj (Af (wb.setCell ⟨rb,r*5+kk,none⟩ (.map (some (s+1)))) (.cells #[.bool false,.slice none 0 0,.bool false,.slice none 0 0] 190) none) b3 (by simp)) (by simp<;>omega);have b4:=Aj hg3 (Aj (Af (wb.setCell ⟨rb,r*5+kk,none⟩ (.map (some (s+1)))) (.cells #[.bool false,.slice none 0 0,.bool false,.slice none 0 0] 190) none) b4 (by simp)) (by simp<;>omega);have b5:=Aj hg3 (Aj (Af (wb.setCell ⟨rb,r*5+kk,none⟩ (.map (some (s+1)))) (.cells #[.bool false,.slice none 0 0,.bool false,.slice none 0 0] 190) none) b5 (by simp)) (by simp<;>omega);have b6:=Aj hg3 (Aj (Af (wb.setCell ⟨rb,r*5+kk,none⟩ (.map (some (s+1)))) (.cells #[.bool false,.slice none 0 0,.bool false,.slice none 0 0] 190) none) b6 (by simp)) (by simp<;>omega);have HM3:=Ac hm3;have HG3:=Ac hg3;clear hm3 hg3)
   | fail)
  have hrat0:RatB ((wb.setCell ⟨rb,r*5+kk,none⟩ (.map (some (s+1)))).alloc (.cells #[.bool false,.slice none 0 0,.bool false,.slice none 0 0] 190)) (s+1+1) 0:=by have:=RatB.new (wb.setCell ⟨rb,r*5+kk,none⟩ (.map (some (s+1)))) 190;rwa [hszq] at this
  have hbase:base≤(s+1+1):=by omega
  have hE3:SumsE w3 base rb (ms.set (r*5+kk) (some (s+1))) (putE E (r*5+kk) x.col (s+1+1) 0) (L.length+1):=(HE1.out.more (Af (wb.setCell ⟨rb,r*5+kk,none⟩ (.map (some (s+1)))) (.cells #[.bool false,.slice none 0 0,.bool false,.slice none 0 0] 190) none)).newRat hmi2 hEc hrat0 hbase (fun j d q hh=>by have:=(HE1.out.rats j d _ _ hh).2.lt;omega) HM3.out HG3.out
  have hq:=Lc HSND.out hEc
  have hmo:=((HE1.out.more (Af (wb.setCell ⟨rb,r*5+kk,none⟩ (.map (some (s+1)))) (.cells #[.bool false,.slice none 0 0,.bool false,.slice none 0 0] 190) none)).maps _ _ hmi2)
  obtain ⟨es,cl,hmob⟩:=hmo.2.obj
  have HW1:=Ac ((HW.out.1.more (Af (wb.setCell ⟨rb,r*5+kk,none⟩ (.map (some (s+1)))) (.cells #[.bool false,.slice none 0 0,.bool false,.slice none 0 0] 190) none)).other HG3.out (Gh hmob))
  have HW2:=Ac ((HW.out.2.more (Af (wb.setCell ⟨rb,r*5+kk,none⟩ (.map (some (s+1)))) (.cells #[.bool false,.slice none 0 0,.bool false,.slice none 0 0] 190) none)).other HG3.out (Gh hmob))
  have hEC:putE E (r*5+kk) x.col (s+1+1) 0 x.cellAt x.col=some ((s+1+1),accQ L x.cellAt x.col):=by rw [hca,hq];simp [putE]
  have HEC:=Ac hEC
  have HRB:=Ac (hE3.rats _ _ _ _ hEC).2
  have HBOX:=Ac (show w3.cell? ⟨s,3,none⟩=some (.bool (decide (x.val.num<0)))∧w3.cell? ⟨s,4,none⟩=some (.slice A1 n1 c1)∧w3.cell? ⟨s,5,none⟩=some (.bool false)∧w3.cell? ⟨s,6,none⟩=some (.slice A2 n2 c2) from ⟨b3,b4,b5,b6⟩)
  have HBL3:=Ac ((HBL.out.trans (Cy (Af (wb.setCell ⟨rb,r*5+kk,none⟩ (.map (some (s+1)))) (.cells #[.bool false,.slice none 0 0,.bool false,.slice none 0 0] 190) none) (by omega))).trans (Gg HG3.out (Sk hmob) hmo.1 (by rw [World.size_alloc];omega)))
  have HE3:=Ac hE3
  have HBS:=Ac hbase
  have hca2:=HCA.out
  clear hrat0 hE3 hq hmo hmob hEC hmap hEc hbase
  obtain ⟨k3,k4,k5,k6⟩:w3.cell? ⟨s,3,none⟩=some (.bool (decide (x.val.num<0)))∧w3.cell? ⟨s,4,none⟩=some (.slice A1 n1 c1)∧w3.cell? ⟨s,5,none⟩=some (.bool false)∧w3.cell? ⟨s,6,none⟩=some (.slice A2 n2 c2):=HBOX.out
  refine (Et w3 _ _ _ _ _ _ HW1.out HW2.out (by have:=HLX.out.1;have:=HKB.out;unfold lim at *;omega) (by have:=HLX.out.2;have:=HKB.out;unfold lim at *;omega) (by rw [By];have:=Gp x.val;omega)).mono ?_
  rintro e w5 ⟨bx,rfl,hr5,hb5,hg5⟩
  rw [By,By,Hp,show sg false (x.val.den:Int).natAbs=(x.val.den:Int) from by simp [sg],Rat.num_divInt_den] at hr5
  have HR5:=Ac hr5
  have HG5:=Ac hg5
  clear hr5 hb5 hg5 k3 k4 k5 k6
  go_wp2_with fail
  refine (Gk w5 (s+1+1) (s+1+1) bx _ _ _ (HRB.out.more HG5.out) (HRB.out.more HG5.out) HR5.out (L.length*(K+2)+1+K) (by have:=HKB.out;omega) (HLA.out.mono (by omega)) (HLX.out.mono (by omega))).mono ?_
  rintro e w6 ⟨rfl,hr6,hg6⟩
  have H6:=Ac (And.intro hr6 hg6)
  clear hr6 hg6
  go_wp2_with fail
  go_end0
  exact ⟨rfl,Qh (by first | exact HMS.out | (rw [List.length_set];exact HMS.out)) HE3.out (by omega) HEC.out (fun i c hh=>by rw [←HSND.out i c];unfold putE;rw [if_neg (fun h2=>hh ⟨h2.1.trans hca2.symm,h2.2⟩)]) HG5.out H6.out.1 H6.out.2,(HBL3.out.trans (Cy HG5.out (Nat.le_trans (by rw [hsz];exact hb0) HBL3.out.size))).trans (Gg H6.out.2 ((HRB.out.more HG5.out).soft) HBS.out (Nat.le_trans (by rw [hsz];exact hb0) (HBL3.out.trans (Cy HG5.out (Nat.le_trans (by rw [hsz];exact hb0) HBL3.out.size))).size))⟩
 | some mb =>
  have hmap:=(HE1.out.maps _ _ hmi).2
  cases hEc:E (r*5+kk) x.col with
  | none =>
   have hmbs:mb<s:=by rw [←hsz];exact (HEE.out.maps _ _ hmi).2.lt
   have HW:=Ac (And.intro (HN1.out.more HGQ.out) (HN2.out.more HGQ.out))
   go_wp2_with (first
    | (at_lookup;refine Fj rfl _ _ rfl x.col hx hmap rfl rfl (.pointer none) false (by rw [hEc];rfl) (by rw [hEc];rfl) ?_)
    | (at_mapUpdate;refine Mx (b:=(s+1)) rfl _ _ _ rfl x.col hx (hmap.kept (Af _ _ none) (by simp)) (by unfold maxLen;omega) rfl rfl rfl ?_;intro w3 hm3 hg3;have b3:=Aj hg3 (Aj (Af wq (.cells #[.bool false,.slice none 0 0,.bool false,.slice none 0 0] 190) none) b3 (by simp)) (by simp<;>omega);have b4:=Aj hg3 (Aj (Af wq (.cells #[.bool false,.slice none 0 0,.bool false,.slice none 0 0] 190) none) b4 (by simp)) (by simp<;>omega);have b5:=Aj hg3 (Aj (Af wq (.cells #[.bool false,.slice none 0 0,.bool false,.slice none 0 0] 190) none) b5 (by simp)) (by simp<;>omega);have b6:=Aj hg3 (Aj (Af wq (.cells #[.bool false,.slice none 0 0,.bool false,.slice none 0 0] 190) none) b6 (by simp)) (by simp<;>omega);have HM3:=Ac hm3;have HG3:=Ac hg3;clear hm3 hg3)
    | fail)
   have hrat0:RatB (wq.alloc (.cells #[.bool false,.slice none 0 0,.bool false,.slice none 0 0] 190)) (s+1) 0:=by have:=RatB.new wq 190;rwa [hszq] at this
   have hbase:base≤(s+1):=by omega
   have hE3:SumsE w3 base rb ms (putE E (r*5+kk) x.col (s+1) 0) (L.length+1):=(HE1.out.more (Af wq (.cells #[.bool false,.slice none 0 0,.bool false,.slice none 0 0] 190) none)).newRat hmi hEc hrat0 hbase (fun j d q hh=>by have:=(HE1.out.rats j d _ _ hh).2.lt;omega) HM3.out HG3.out
   have hq:=Lc HSND.out hEc
   have hmo:=((HE1.out.more (Af wq (.cells #[.bool false,.slice none 0 0,.bool false,.slice none 0 0] 190) none)).maps _ _ hmi)
   obtain ⟨es,cl,hmob⟩:=hmo.2.obj
   have HW1:=Ac ((HW.out.1.more (Af wq (.cells #[.bool false,.slice none 0 0,.bool false,.slice none 0 0] 190) none)).other HG3.out (Gh hmob))
   have HW2:=Ac ((HW.out.2.more (Af wq (.cells #[.bool false,.slice none 0 0,.bool false,.slice none 0 0] 190) none)).other HG3.out (Gh hmob))
   have hEC:putE E (r*5+kk) x.col (s+1) 0 x.cellAt x.col=some ((s+1),accQ L x.cellAt x.col):=by rw [hca,hq];simp [putE]
   have HEC:=Ac hEC
   have HRB:=Ac (hE3.rats _ _ _ _ hEC).2
   have HBOX:=Ac (show w3.cell? ⟨s,3,none⟩=some (.bool (decide (x.val.num<0)))∧w3.cell? ⟨s,4,none⟩=some (.slice A1 n1 c1)∧w3.cell? ⟨s,5,none⟩=some (.bool false)∧w3.cell? ⟨s,6,none⟩=some (.slice A2 n2 c2) from ⟨b3,b4,b5,b6⟩)
   have HBL3:=Ac ((HBL.out.trans (Cy (Af wq (.cells #[.bool false,.slice none 0 0,.bool false,.slice none 0 0] 190) none) (by omega))).trans (Gg HG3.out (Sk hmob) hmo.1 (by rw [World.size_alloc];omega)))
   have HE3:=Ac hE3
   have HBS:=Ac hbase
   have hca2:=HCA.out
   clear hrat0 hE3 hq hmo hmob hEC hmap hEc hbase
   obtain ⟨k3,k4,k5,k6⟩:w3.cell? ⟨s,3,none⟩=some (.bool (decide (x.val.num<0)))∧w3.cell? ⟨s,4,none⟩=some (.slice A1 n1 c1)∧w3.cell? ⟨s,5,none⟩=some (.bool false)∧w3.cell? ⟨s,6,none⟩=some (.slice A2 n2 c2):=HBOX.out
   refine (Et w3 _ _ _ _ _ _ HW1.out HW2.out (by have:=HLX.out.1;have:=HKB.out;unfold lim at *;omega) (by have:=HLX.out.2;have:=HKB.out;unfold lim at *;omega) (by rw [By];have:=Gp x.val;omega)).mono ?_
   rintro e w5 ⟨bx,rfl,hr5,hb5,hg5⟩
   rw [By,By,Hp,show sg false (x.val.den:Int).natAbs=(x.val.den:Int) from by simp [sg],Rat.num_divInt_den] at hr5
   have HR5:=Ac hr5
   have HG5:=Ac hg5
   clear hr5 hb5 hg5 k3 k4 k5 k6
   go_wp2_with fail
   refine (Gk w5 (s+1) (s+1) bx _ _ _ (HRB.out.more HG5.out) (HRB.out.more HG5.out) HR5.out (L.length*(K+2)+1+K) (by have:=HKB.out;omega) (HLA.out.mono (by omega)) (HLX.out.mono (by omega))).mono ?_
   rintro e w6 ⟨rfl,hr6,hg6⟩
   have H6:=Ac (And.intro hr6 hg6)
   clear hr6 hg6
   go_wp2_with fail
   go_end0
   exact ⟨rfl,Qh (by first | exact HMS.out | (rw [List.length_set];exact HMS.out)) HE3.out (by omega) HEC.out (fun i c hh=>by rw [←HSND.out i c];unfold putE;rw [if_neg (fun h2=>hh ⟨h2.1.trans hca2.symm,h2.2⟩)]) HG5.out H6.out.1 H6.out.2,(HBL3.out.trans (Cy HG5.out (Nat.le_trans (by rw [hsz];exact hb0) HBL3.out.size))).trans (Gg H6.out.2 ((HRB.out.more HG5.out).soft) HBS.out (Nat.le_trans (by rw [hsz];exact hb0) (HBL3.out.trans (Cy HG5.out (Nat.le_trans (by rw [hsz];exact hb0) HBL3.out.size))).size))⟩
  | some bq =>
   obtain ⟨b,q⟩:=bq
   go_wp2_with (first
    | (at_lookup;refine Fj rfl _ _ rfl x.col hx hmap rfl rfl (.pointer (some ⟨b,0,none⟩)) true (by rw [hEc];rfl) (by rw [hEc];rfl) ?_)
    | fail)
   have hq:=Ld HSND.out hEc
   rw [←hca] at hEc hq
   rw [hq] at hEc
   have HBOX:=Ac (show wq.cell? ⟨s,3,none⟩=some (.bool (decide (x.val.num<0)))∧wq.cell? ⟨s,4,none⟩=some (.slice A1 n1 c1)∧wq.cell? ⟨s,5,none⟩=some (.bool false)∧wq.cell? ⟨s,6,none⟩=some (.slice A2 n2 c2) from ⟨b3,b4,b5,b6⟩)
   have HRB:=Ac ((HE1.out.rats _ _ _ _ hEc).2)
   have HW1:=Ac (HN1.out.more HGQ.out)
   have HW2:=Ac (HN2.out.more HGQ.out)
   have HEC:=Ac hEc
   have HBB:=Ac ((HE1.out.rats _ _ _ _ hEc).1)
   clear hEc hq hmap
   obtain ⟨k3,k4,k5,k6⟩:wq.cell? ⟨s,3,none⟩=some (.bool (decide (x.val.num<0)))∧wq.cell? ⟨s,4,none⟩=some (.slice A1 n1 c1)∧wq.cell? ⟨s,5,none⟩=some (.bool false)∧wq.cell? ⟨s,6,none⟩=some (.slice A2 n2 c2):=HBOX.out
   refine (Et wq _ _ _ _ _ _ HW1.out HW2.out (by have:=HLX.out.1;have:=HKB.out;unfold lim at *;omega) (by have:=HLX.out.2;have:=HKB.out;unfold lim at *;omega) (by rw [By];have:=Gp x.val;omega)).mono ?_
   rintro e w5 ⟨bx,rfl,hr5,hb5,hg5⟩
   rw [By,By,Hp,show sg false (x.val.den:Int).natAbs=(x.val.den:Int) from by simp [sg],Rat.num_divInt_den] at hr5
   have HR5:=Ac hr5
   have HG5:=Ac hg5
   clear hr5 hb5 hg5 k3 k4 k5 k6
   go_wp2_with fail
   refine (Gk w5 b b bx _ _ _ (HRB.out.more HG5.out) (HRB.out.more HG5.out) HR5.out (L.length*(K+2)+1+K) (by have:=HKB.out;omega) (HLA.out.mono (by omega)) (HLX.out.mono (by omega))).mono ?_
   rintro e w6 ⟨rfl,hr6,hg6⟩
   have H6:=Ac (And.intro hr6 hg6)
   clear hr6 hg6
   go_wp2_with fail
   go_end0
   exact ⟨rfl,Qh HMS.out HE1.out (by omega) HEC.out (fun i c _=>HSND.out i c) HG5.out H6.out.1 H6.out.2,(Cy (Ae HGQ.out HG5.out) (by omega)).trans (Gg H6.out.2 ((HRB.out.more HG5.out).soft) HBB.out (by have:=(Ae HGQ.out HG5.out).size;omega))⟩
end
section
open Go.RowKit Go.Maps
open Rat
def RangesB (w:World) (mb r N:Nat) (F:Int→Option Nat) (left:Int→Bool) (cnt:Nat):Prop :=
 ∃ D leftL,w.ranges Tryz.prog 3 Gd mb r N D leftL cnt∧(∀ c,I64 c→leftL (.int .i64 c)=left c)∧(∀ c,left c=true→(F c).isSome=true)∧(∀ c,I64 c→∀ b,F c=some b→∀ z,D.atKey (.int .i64 c) z=.lit (.int .u64 (b:Nat)))
theorem T8 (a b:Int):(Lit.int .i64 a).sameKey (.int .i64 b)=decide (a=b):=by
 cases h:decide (a=b) with
 | true=>rw [decide_eq_true_iff] at h;subst h;simp [Lit.sameKey]
 | false=>rw [decide_eq_false_iff_not] at h;simp [Lit.sameKey,h]
theorem RangesB.kept {w w':World} {row:Option Nat} {mb r N:Nat} {F:Int→Option Nat} {left:Int→Bool} {cnt:Nat} (h:RangesB w mb r N F left cnt) (hg:w.grownBy w' row) (h1:some mb≠row) (h2:some r≠row):RangesB w' mb r N F left cnt:=by
 obtain ⟨D,leftL,hr,k⟩:=h;exact ⟨D,leftL,hr.kept hg h1 h2,k⟩
theorem RangesB.left_eq {w:World} {mb r N:Nat} {F:Int→Option Nat} {left:Int→Bool} {cnt:Nat} (h:RangesB w mb r N F left cnt):w.rangeLeft mb r=cnt:=by
 obtain ⟨D,leftL,hr,k⟩:=h;exact hr.left_eq
theorem RangesB.iter {w:World} {mb r N:Nat} {F:Int→Option Nat} {left:Int→Bool} {cnt:Nat} (h:RangesB w mb r N F left cnt):∃ m s seen c,w.heap[r]? = some (.mapIter m s seen c):=by
 obtain ⟨D,leftL,⟨es,clock,since,seen,c0,_,_,_,_,hr,_⟩,k⟩:=h;exact ⟨_,_,_,_,hr⟩
theorem RangesB.obj {w:World} {mb r N:Nat} {F:Int→Option Nat} {left:Int→Bool} {cnt:Nat} (h:RangesB w mb r N F left cnt):∃ es cl,w.heap[mb]? = some (.map es cl):=by
 obtain ⟨D,leftL,⟨es,clock,since,seen,c0,hb,_⟩,k⟩:=h;exact ⟨_,_,hb⟩
theorem RangesB.plain {w:World} {mb r N:Nat} {F:Int→Option Nat} {left:Int→Bool} {cnt:Nat} (h:RangesB w mb r N F left cnt):Dt w r:=by
 obtain ⟨m,s,seen,c,hr⟩:=h.iter
 intro o n
 simp [World.cell?,hr]
theorem RangesB.int_ne {w:World} {mb r N b:Nat} {z:Int} {F:Int→Option Nat} {left:Int→Bool} {cnt:Nat} (h:RangesB w mb r N F left cnt) (hb:IntB w b z):b≠r∧b≠mb:=by
 obtain ⟨m,s,seen,c,hr⟩:=h.iter
 obtain ⟨es,cl,hm⟩:=h.obj
 obtain ⟨v,T,hb,_⟩:=hb
 constructor
 ·rintro rfl;rw [hb] at hr;cases hr
 ·rintro rfl;rw [hb] at hm;cases hm
theorem P7 {w:World} {ops:Array Oper} {rest:List Oper} {o:Oper} {a:Act} {Q:Exit→Act→World→Prop} (hg:o.guard=none) (m:Operand) (hop:o.op=Op.range 129 m)
  {mb N:Nat} {F:Int→Option Nat} (h:MapB w mb N F) (hm:a.eval m=.map (some mb))
  (hK:∀ w' cnt,RangesB w' mb w.heap.size N F (fun c=>(F c).isSome) cnt→w.grownBy w' none→w'.heap.size=w.heap.size+1→wpList Tryz.prog ops Q rest (a.put o.dst (.pointer (some ⟨w.heap.size,0,none⟩))) w'):wpList Tryz.prog ops Q (o::rest) a w:=by
 obtain ⟨h0,D,hown,h2⟩:=h
 refine wpList_range_own w hg m 129 hop 3 188 lawI Tryz.underlying129 Gd mb N D hm hown fun w' hr hg' hs=>hK w' (Maps.size D) ⟨D,Maps.has D,hr,fun c hc=>(h2 c hc).1,fun c hc=>hc,fun c hc=>(h2 c hc).2⟩ hg' hs
theorem Ra {w:World} {ops:Array Oper} {rest:List Oper} {o:Oper} {a:Act} {Q:Exit→Act→World→Prop} (hg:o.guard=none) (it:Operand) (hop:o.op=Op.next it false)
  {mb r N:Nat} {F:Int→Option Nat} {left:Int→Bool} {cnt:Nat} (h:RangesB w mb r N F left cnt) (hit:a.eval it=.pointer (some ⟨r,0,none⟩))
  (hDone:(∀ c,I64 c→left c=false)→wpList Tryz.prog ops Q rest (a.put o.dst (.tuple #[.bool false])) w)
  (hMore:∀ (c:Int) (b:Nat) (w':World) (cnt':Nat),I64 c→left c=true→F c=some b→RangesB w' mb r N F (fun d=>left d&&decide (d≠c)) cnt'→cnt'<cnt→w.grownBy w' (some r)→w'.heap.size=w.heap.size→
   (Instr.entry (.pointer (some ⟨r,0,none⟩))).run Tryz.prog w'=.ok (.tuple #[.int .i64 c,.pointer (some ⟨b,0,none⟩)]) w'→wpList Tryz.prog ops Q rest (a.put o.dst (.tuple #[.bool true,.int .i64 c,.pointer (some ⟨b,0,none⟩)])) w') :
  wpList Tryz.prog ops Q (o::rest) a w:=by
 obtain ⟨D,leftL,hr,k1,k2,k3⟩:=h
 refine wpList_next_ranges w hg it hop 3 lawI Gd (Value.int .i64) O9 (fun key kl hkey=>by obtain ⟨x,rfl,_⟩:=Maps.keyOf_int_inv Tryz.underlying3 hkey;exact ⟨x,rfl⟩) (fun v y hv=>by obtain ⟨o,rfl,_⟩:=Jd hv;exact ⟨o,rfl⟩) mb r N D leftL cnt hit hr
  (fun _ hl=>hDone fun c hc=>by rw [←k1 c hc];exact hl _) (fun c ob kl y w' cnt' hkey hlk hv hat hrg hlt hgr hsz hen=>?_)
 obtain ⟨x',ex,rfl,hwx⟩:=Maps.keyOf_int_inv Tryz.underlying3 hkey
 injection ex with _ ex
 subst ex
 have hI:=Z7 hwx
 have hl:=k1 c hI
 rw [hlk] at hl
 have hF:=k2 c hl.symm
 cases hb:F c with
 | none=>rw [hb] at hF;cases hF
 | some b =>
  have h3:=k3 c hI b hb (.agg [])
  rw [hat (.agg [])] at h3
  obtain ⟨y1,y2⟩:=y
  simp only at h3
  subst h3
  have h4:=Mm hv
  rw [h4] at hen ⊢
  refine hMore c b w' cnt' hI hl.symm hb ⟨D,_,hrg,fun d hd=>?_,fun d hd=>k2 d (by simp at hd;exact hd.1),k3⟩ hlt hgr hsz hen
  simp only [T8,k1 d hd]
  simp
def MultAt (L:List StampP) (r:Nat) (done:Nat→Int→Bool) (m:Nat):Prop :=
 (∀ k c,k<5→hasQ L (r*5+k) c=true→done k c=true→(accQ L (r*5+k) c).den∣m)∧∀ m',(∀ k c,k<5→hasQ L (r*5+k) c=true→(accQ L (r*5+k) c).den∣m')→m∣m'
theorem MultAt.start (L:List StampP) (r:Nat):MultAt L r (fun _ _=>false) 1:=⟨fun _ _ _ _ h=>(by cases h),fun _ _=>Nat.one_dvd _⟩
theorem MultAt.step {L:List StampP} {r m k:Nat} {c:Int} {done done':Nat→Int→Bool} (h:MultAt L r done m) (hk:k<5) (hh:hasQ L (r*5+k) c=true) (hd:∀ j d,done' j d=true→done j d=true∨j=k∧d=c):MultAt L r done' (m*((accQ L (r*5+k) c).den/Nat.gcd m (accQ L (r*5+k) c).den)):=by
 generalize hq:(accQ L (r*5+k) c).den=q at *
 have e:m*(q/Nat.gcd m q)=Nat.lcm m q:=by rw [Nat.lcm,Nat.mul_div_assoc _ (Nat.gcd_dvd_right _ _)]
 rw [e]
 refine ⟨fun j d hj hjd hdd=>?_,fun m' hm=>Nat.lcm_dvd (h.2 m' hm) (by rw [←hq];exact hm k c hk hh)⟩
 rcases hd j d hdd with h1 | ⟨rfl,rfl⟩
 ·exact Nat.dvd_trans (h.1 j d hj hjd h1) (Nat.dvd_lcm_left _ _)
 ·rw [hq];exact Nat.dvd_lcm_right _ _
theorem MultAt.weak {L:List StampP} {r m:Nat} {done done':Nat→Int→Bool} (h:MultAt L r done m) (hd:∀ j d,j<5→hasQ L (r*5+j) d=true→done' j d=true→done j d=true):MultAt L r done' m:=⟨fun j d hj hjd hdd=>h.1 j d hj hjd (hd j d hj hjd hdd),h.2⟩
theorem MultAt.end {L:List StampP} {r m:Nat} {done:Nat→Int→Bool} (h:MultAt L r done m) (hd:∀ j d,j<5→hasQ L (r*5+j) d=true→done j d=true):m=E4 L r :=
 IsMult.unique ⟨fun k c hk hh=>h.1 k c hk hh (hd k c hk hh),h.2⟩ (J9 L r)
theorem MultAt.dvd {L:List StampP} {r m:Nat} {done:Nat→Int→Bool} (h:MultAt L r done m):m∣Jx L:=h.2 _ fun _ _ _ _=>Rt _ _ _
theorem MultAt.lim {L:List StampP} {r m K:Nat} {done:Nat→Int→Bool} (h:MultAt L r done m) (hL:LimL L K):lim (m:Int)≤L.length*K+1:=Nat.le_trans (Vr h.dvd (Lr L)) (Pd hL)
set_option maxRecDepth 100000 in
theorem Th (w:World) (base rb n r K:Nat) (L:List StampP) (hS:SumsS w base rb n L) (hrn:r<n) (hL:LimL L K) (hkb:L.length*(K+2)+1≤549755813888) :
  Calls Tryz.prog 139 #[.pointer (some ⟨rb,r*5,none⟩)] w fun e w'=>∃ b,e=.returned (.pointer (some ⟨b,0,none⟩))∧IntB w' b (E4 L r:Nat)∧w.heap.size≤b∧w.grownBy w' none:=by
 obtain ⟨ms,E,hms,hE,hsnd⟩:=hS
 have ho:∀ k,k<5→∃ o,ms[r*5+k]? = some o:=fun k hk=>⟨ms[r*5+k]'(by omega),List.getElem?_eq_getElem (by omega)⟩
 obtain ⟨o0,h0⟩:=ho 0 (by omega)
 obtain ⟨o1,h1⟩:=ho 1 (by omega)
 obtain ⟨o2,h2⟩:=ho 2 (by omega)
 obtain ⟨o3,h3⟩:=ho 3 (by omega)
 obtain ⟨o4,h4⟩:=ho 4 (by omega)
 have hidx:∀ k,k<5→∃ o,ms[r*5+k]? = some o∧∀ W,(Instr.index 130 (.agg #[.map o0,.map o1,.map o2,.map o3,.map o4]) (.int .i64 (k:Int))).run Tryz.prog W=.ok (.map o) W:=by
  intro k hk
  rcases (show k=0∨k=1∨k=2∨k=3∨k=4 by omega) with rfl | rfl | rfl | rfl | rfl
  ·exact ⟨o0,h0,fun _=>by kernel_rfl⟩
  ·exact ⟨o1,h1,fun _=>by kernel_rfl⟩
  ·exact ⟨o2,h2,fun _=>by kernel_rfl⟩
  ·exact ⟨o3,h3,fun _=>by kernel_rfl⟩
  ·exact ⟨o4,h4,fun _=>by kernel_rfl⟩
 have HIDX:=Ac hidx
 have HE:=Ac hE
 have HSND:=Ac hsnd
 have HL:=Ac hL
 have HKB:=Ac hkb
 clear hidx hE hsnd hL hkb ho
 go_enter Tryz.func139,Tryz.ntmps139
 go_wp2_with fail
 refine (C3 w 1 (by omega) (by omega)).mono ?_
 rintro e w1 ⟨mb,rfl,hi1,hb1,hg1⟩
 have q0:=Aj hg1 (HE.out.cell h0) (by simp)
 have q1:=Aj hg1 (HE.out.cell h1) (by simp)
 have q2:=Aj hg1 (HE.out.cell h2) (by simp)
 have q3:=Aj hg1 (HE.out.cell h3) (by simp)
 have q4:=Aj hg1 (HE.out.cell h4) (by simp)
 have HI1:=Ac hi1
 have HG1:=Ac hg1
 have HB1:=Ac hb1
 clear hi1 hg1 hb1 h0 h1 h2 h3 h4
 simp only [Nat.add_zero] at q0
 go_wp2_with fail
 clear q0 q1 q2 q3 q4
 go_loopw [13] (fun iv wr=>∃ k:Nat,k≤5∧iv=.int .i64 k∧w.grownBy wr none∧Hid (∃ m:Nat,IntB wr mb (m:Nat)∧MultAt L r (fun j _=>decide (j<k)) m)) (fun iv _=>(5-intOf iv).toNat)
 case atStart=>exact ⟨0,by omega,rfl,HG1.out,Ac ⟨1,HI1.out,(MultAt.start L r).weak (fun j d _ _ h=>by simp at h)⟩⟩
 case round =>
  obtain ⟨k,hk,rfl,hg,hm⟩:=hrel
  by_cases hlt:k<5
  ·obtain ⟨o,hmo,hix⟩:=HIDX.out k hlt
   cases o with
   | none =>
    have hrg:=fun W:World=>run_range_nilMap (P:=Tryz.prog) W 129 3 188 Tryz.underlying129
    have hnx:∀ (W:World) ty,(Instr.next (.pointer (some ⟨W.heap.size,0,none⟩)) false ty).run Tryz.prog (W.alloc (.mapIter none 0 #[] 0))=_:=fun W ty=>run_next_nilMap W ty 0 0 #[]
    go_wp2_with fail
    refine wp_loop_rounds 1 ?_
    rw [rounds_succ]
    go_wp2_with fail
    obtain ⟨m,hm1,hm2⟩:=hm.out
    exact ⟨⟨k+1,by omega,by go_num,Ae hg (Af _ _ _),Ac ⟨m,hm1.more (Af _ _ _),hm2.weak fun j d hj hh hd=>by
     have hd':j<k+1:=of_decide_eq_true hd
     by_cases hjk:j=k
     ·subst hjk
      have h1:=HSND.out (r*5+j) d
      rw [HE.out.nil _ d hmo,hh] at h1
      simp at h1
     ·simp;omega⟩⟩,by simp [intOf];omega⟩
   | some mp =>
    have hmap:=((HE.out.more hg).maps _ _ hmo).2
    have HMO:=Ac hmo
    have HG:=Ac hg
    have hszr:=hg.size
    go_wp2_with (first
     | (at_range;refine P7 rfl _ rfl hmap rfl ?_;intro w0 cnt0 hrg0 hg0 hs0)
     | fail)
    go_frame
    have t5:decide ((k:Int)<5)=true:=decide_eq_true (by omega)
    rw [t5]
    clear t5
    generalize hrb:wr.heap.size=rr at *
    have HRG0:=Ac hrg0
    have HG0:=Ac hg0
    have HMM:=Ac (show ∃ m:Nat,IntB w0 mb (m:Nat)∧MultAt L r (fun j _=>decide (j<k)) m from by obtain ⟨m,h1,h2⟩:=hm.out;exact ⟨m,h1.more hg0,h2⟩)
    clear hrg0 hg0 hm hmap hg
    go_loopw [7] (fun _ wx=>∃ (left:Int→Bool) (cnt m:Nat),Hid (RangesB wx mp rr L.length (fun c=>(E (r*5+k) c).map Prod.fst) left cnt)∧w.grownBy wx none∧Hid (IntB wx mb (m:Nat))∧Hid (MultAt L r (fun j d=>decide (j<k)||(decide (j=k)&&!left d)) m)) (fun _ wx=>wx.rangeLeft mp rr)
    case atStart =>
     obtain ⟨m,h1,h2⟩:=HMM.out
     exact ⟨_,cnt0,m,HRG0,Ae HG.out HG0.out,Ac h1,Ac (h2.weak fun j d hj hh hd=>by
      simp only [Bool.or_eq_true] at hd
      rcases hd with h3 | h3
      ·exact h3
      ·simp only [Bool.and_eq_true,decide_eq_true_eq] at h3
       obtain ⟨rfl,h4⟩:=h3
       have h5:=HSND.out (r*5+j) d
       rw [hh] at h5
       cases hx:E (r*5+j) d with
       | none=>rw [hx] at h5;simp at h5
       | some bq=>rw [hx] at h4;simp at h4)⟩
    case round =>
     obtain ⟨left,cnt,m,hrg,hgx,hmx,hacc⟩:=hrel
     obtain ⟨w5,rfl⟩:∃ w5:World,w5=wr:=⟨_,rfl⟩
     go_wp2_with (first
      | (at_next;refine Ra rfl _ rfl hrg.out rfl ?_ ?_)
      | fail)
     ·intro hl0
      go_wp2_with fail
      exact ⟨⟨k+1,by omega,by go_num,hgx,Ac ⟨m,hmx.out,hacc.out.weak fun j d hj hh hd=>by
       have hd':j<k+1:=of_decide_eq_true hd
       by_cases hjk:j=k
       ·subst hjk
        have h5:=HSND.out (r*5+j) d
        rw [hh] at h5
        cases hx:E (r*5+j) d with
        | none=>rw [hx] at h5;simp at h5
        | some bq =>
         have hI:=((HE.out.maps _ _ HMO.out).2).1 d bq.1 (show (E (r*5+j) d).map Prod.fst=_ by rw [hx];rfl)
         simp [hl0 d hI]
       ·simp;omega⟩⟩,by simp [intOf];omega⟩
     ·intro c b w1 cnt1 hIc hlx q hEc hrg1 hlt1 hg1 hs1 hen
      have hq:=Ld HSND.out hEc
      have hrat:=(HE.out.rats _ _ _ _ hEc).2
      rw [hq] at hEc hrat
      have hh:hasQ L (r*5+k) c=true:=by
       have h5:=HSND.out (r*5+k) c
       rw [hEc] at h5
       cases hx:hasQ L (r*5+k) c with
       | true=>rfl
       | false=>rw [hx] at h5;simp at h5
      have hstep:=fun done' hd=>hacc.out.step (done':=done') hlt hh hd
      have hqd:accQ L (r*5+k) c=accQ L (r*5+k) c:=rfl
      have hlm:lim (m:Int)≤549755813888:=Nat.le_trans (hacc.out.lim HL.out) (by have:=HKB.out;rw [Nat.mul_add] at this;omega)
      have hla:=Kr HL.out (r*5+k) c
      have hpl:=hrg.out.plain
      have hne:=hrg.out.int_ne hmx.out
      have hi1:=hmx.out.other hg1 hpl hne.1
      have hgw1:=Aw hgx hg1 hszr
      have HR1:=Ac (hrat.more hgw1)
      have HI1':=Ac hi1
      have HGW:=Ac hgw1
      have HRG1:=Ac hrg1
      have HST:=Ac hstep
      have HLM:=Ac hlm
      have HLA:=Ac (show LimQ (accQ L (r*5+k) c) 549755813888 from hla.mono HKB.out)
      have HMX:=hmx
      have HCNT:=Ac (And.intro hrg.out.left_eq hlt1)
      have HPOS:Hid (0<m):=Ac (Nat.pos_of_dvd_of_pos hacc.out.dvd (Lr L))
      clear hstep hla hpl hne hi1 hgw1 hrg1 hlm hqd hrat hEc hg1 hs1 hacc hmx hrg hgx hlt1
      have gz:=Af w1 (.cells #[.bool false,.slice none 0 0] 158) none
      have HZ:Hid (IntB (w1.alloc (.cells #[.bool false,.slice none 0 0] 158)) w1.heap.size 0):=Ac ⟨.slice none 0 0,158,Bi _ _,Nums.nil _⟩
      have HGZ:=Ac gz
      clear gz
      go_wp2_with fail
      generalize hwz:w1.alloc (.cells #[.bool false,.slice none 0 0] 158)=wz at *
      generalize hzb:w1.heap.size=zb at *
      clear hwz
      refine (C2 wz b _ (HR1.out.more HGZ.out) (by have:=HLA.out.2;omega)).mono ?_
      rintro e w2 ⟨b2,rfl,hi2,hb2,hg2⟩
      have HI2:=Ac hi2
      have HG2:=Ac hg2
      clear hi2 hb2 hg2
      go_wp2_with fail
      refine (C2 w2 b _ ((HR1.out.more HGZ.out).more HG2.out) (by have:=HLA.out.2;omega)).mono ?_
      rintro e w3 ⟨b3,rfl,hi3,hb3,hg3⟩
      have HI3:=Ac hi3
      have HG3:=Ac (Ae HG2.out hg3)
      have HI2:=Ac (HI2.out.more hg3)
      clear hi3 hb3 hg3
      go_wp2_with fail
      refine (Ll w3 mb 0 b3 0 _ _ (((HI1'.out.more HGZ.out).more HG3.out).at) HI3.out.at HLM.out HLA.out.2).mono ?_
      rintro e w4 ⟨b4,rfl,hi4,hb4,hg4⟩
      have HI4:=Ac hi4
      have HG4:=Ac (Ae HG3.out hg4)
      have HI2:=Ac (HI2.out.more hg4)
      clear hi4 hb4 hg4
      go_wp2_with fail
      have hi4:=HI4.out
      rw [Int.natAbs_natCast,Int.natAbs_natCast] at hi4
      have hi2:=HI2.out
      have hld:=HLA.out.2
      have hgp:0<Nat.gcd m (accQ L (r*5+k) c).den:=Nat.gcd_pos_of_pos_left _ HPOS.out
      obtain ⟨dn,hdn⟩:∃ dn,dn=(accQ L (r*5+k) c).den:=⟨_,rfl⟩
      rw [←hdn] at hi2 hi4 hld hgp
      obtain ⟨gg,hgg⟩:∃ gg,gg=Nat.gcd m dn:=⟨_,rfl⟩
      rw [←hgg] at hi4 hgp
      have HDN:=Ac hdn
      have HGG:=Ac hgg
      clear hdn hgg
      have hgg0:(gg:Int)≠0:=by omega
      have hl2:lim (dn:Int)≤1099511627776:=by omega
      refine (Gf w4 zb b2 0 b4 0 0 (dn:Int) (gg:Int) (HZ.out.more HG4.out) hi2.at hi4.at hl2 hgg0).mono ?_
      rintro e w6 ⟨rfl,hi6,hg6⟩
      have hsz6:w.heap.size≤zb:=by rw [←hzb];exact HGW.out.size
      have HI6:=Ac hi6
      have HG6:=Ac (show wz.grownBy w6 (some zb) from Ae (C0 HG4.out) hg6)
      have hne:mb≠zb:=by have:=HI1'.out.lt;omega
      have HNE:=Ac hne
      have hmb6:=((HI1'.out.more HGZ.out).more HG4.out).other hg6 (HZ.out.more HG4.out).plain hne
      have HMB6:=Ac hmb6
      clear hi6 hg6 hmb6 hne hi4 hi2
      go_wp2_with fail
      have hq6:lim ((dn:Int).tdiv (gg:Int))≤1099511627776:=Nat.le_trans (Ea (D7 _ _)) hl2
      refine (Ct w6 mb mb 0 zb 0 (m:Int) (m:Int) _ HMB6.out HMB6.out.at HI6.out.at (Nat.le_trans HLM.out (by omega)) hq6).mono ?_
      rintro e w7 ⟨rfl,hi7,hg7⟩
      have HI7:=Ac hi7
      have HG7:=Ac hg7
      clear hi7 hg7
      go_wp2_with fail
      have hne1:=HRG1.out.int_ne HI1'.out
      have hlt1:mp<zb∧rr<zb:=by
       obtain ⟨es,cl,ho⟩:=HRG1.out.obj
       obtain ⟨_,_,_,_,hr⟩:=HRG1.out.iter
       have:=Dq ho
       have:=Dq hr
       omega
      have hrz:=(((HRG1.out.kept HGZ.out (by simp) (by simp)).kept HG6.out (by simp;omega) (by simp;omega)).kept HG7.out (by simp;exact hne1.2.symm) (by simp;exact hne1.1.symm))
      have hgw7:=Aw (Aw (Ae HGW.out HGZ.out) HG6.out hsz6) HG7.out HB1.out
      have hst:=HST.out (fun j d=>decide (j<k)||(decide (j=k)&&!(left d&&!decide (d=c)))) (fun j d hd=>by
       simp only [Bool.or_eq_true,Bool.and_eq_true,decide_eq_true_eq,Bool.not_eq_true',Bool.and_eq_false_iff,Bool.not_eq_false',decide_eq_true_eq] at hd ⊢
       rcases hd with hd | ⟨h1,h2 | h2⟩
       ·exact .inl (.inl hd)
       ·exact .inl (.inr ⟨h1,h2⟩)
       ·exact .inr ⟨h1,h2⟩)
      have e7:(m:Int)*(dn:Int).tdiv (gg:Int)=((m*((accQ L (r*5+k) c).den/Nat.gcd m (accQ L (r*5+k) c).den):Nat):Int):=by
       rw [←HDN.out,←HGG.out,Int.natCast_mul,Int.tdiv_eq_ediv_of_nonneg (by omega),Int.natCast_ediv]
      have hi7:=HI7.out
      rw [e7] at hi7
      have hml:=hrz.left_eq
      have hc:=HCNT.out
      refine ⟨⟨_,cnt1,_,Ac hrz,hgw7,Ac hi7,Ac hst⟩,?_⟩
      rw [hml,hc.1];exact hc.2
  ·obtain rfl:k=5:=by omega
   obtain ⟨m,hm1,hm2⟩:=hm.out
   have e:=hm2.end (fun j d hj _=>by simp;omega)
   subst e
   have HM:=Ac hm1
   clear hm hm1 hm2
   go_wp2_with fail
   go_ret
   exact ⟨mb,rfl,HM.out,HB1.out,hg⟩
end
end Go.Proofs.YtckbiimikeiejaaGreatDoor
