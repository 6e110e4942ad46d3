/- SumI RefH RefI RefJ RefK RefM. -/
import Derived.Test.YtmfmfpmkgmkgiaaGreatDoorMap
import Derived.Test.YtmfmfpmkgmkgiaaGreatDoorMao
set_option linter.unusedVariables false
set_option linter.unusedSimpArgs false
set_option maxHeartbeats 40000000
namespace Go.Proofs.YtmfmfpmkgmkgiaaGreatDoor
section
open Go.RowKit Go.Maps
open Rat
def C6 (St:Nat→List StampP):Nat→List StampP
 | 0=>[]
 | k+1=>C6 St k++St k
def H8 (L:List StampP) (n:Nat):List RowP:=(List.range n).map (Dk L)
def It (L:List StampP) (r:Nat):Bool:=(E0 (Dk L r) 3).all fun x=>decide (x≤72)
def Fm (L:List StampP) (n:Nat):Int:=if ∀ r,r<n→It L r=true then 0 else 13
def G1 (L:List StampP) (n:Nat):List RowP:=if Fm L n=0 then H8 L n else []
theorem Ye {L:List StampP} {n k:Nat} (hk:k<n) (h:It L k=false):Fm L n=13∧G1 L n=[]:=by
 have h1:Fm L n=13:=by unfold Fm;rw [if_neg];intro hh;rw [hh k hk] at h;cases h
 exact ⟨h1,by unfold G1;rw [h1];rfl⟩
theorem Yf {L:List StampP} {n:Nat} (h:∀ r,r<n→It L r=true):Fm L n=0∧G1 L n=H8 L n:=by
 have h1:Fm L n=0:=by unfold Fm;rw [if_pos h]
 exact ⟨h1,by unfold G1;rw [if_pos h1]⟩
theorem SysRow.nil (w:World):SysRow w (.slice none 0 0) []:=⟨none,0,rfl,by simp,by omega,fun h=>by simp at h⟩
theorem K2 (L:List StampP) (n:Nat):(H8 L n).length=n:=by simp [H8]
theorem Sy (L:List StampP) (n:Nat):H8 L (n+1)=H8 L n++[Dk L n]:=by simp [H8,List.range_succ]
theorem Ng (St:Nat→List StampP) (k:Nat):∀ d,(C6 St k).length≤(C6 St (k+d)).length
 | 0=>Nat.le_refl _
 | d+1=>by have:=Ng St k d;rw [←Nat.add_assoc,C6,List.length_append];omega
theorem Jn {St:Nat→List StampP} {x:StampP}:∀ {k:Nat},x∈C6 St k→∃ j,j<k∧x∈St j
 | 0,h=>by simp [C6] at h
 | k+1,h=>by
  rcases List.mem_append.1 h with h | h
  ·obtain ⟨j,hj,hx⟩:=Jn h;exact ⟨j,by omega,hx⟩
  ·exact ⟨k,by omega,h⟩
theorem Tl {St:Nat→List StampP} {D M k t:Nat} (hM:(C6 St D).length≤M) (hk:k<D) (ht:t≤(St k).length):(C6 St k++(St k).take t).length≤M:=by
 have h1:=Ng St (k+1) (D-(k+1))
 rw [show k+1+(D-(k+1))=D by omega,C6,List.length_append] at h1
 rw [List.length_append,List.length_take]
 omega
def RowW (w:World) (cs:List Value) (r:RowP):Prop :=
 ∃ vm va vh vs vk,cs=[.bool r.mneg,vm,va,vh,vs,.bool r.kneg,vk]∧Nums w vm r.mlimbs∧Stab (fun w'=>CellRow w' va r.a) w∧Stab (fun w'=>CellRow w' vh r.h) w∧Stab (fun w'=>CellRow w' vs r.s) w∧Nums w vk r.klimbs
theorem RowW.step {w w':World} {cs:List Value} {r:RowP} (h:RowW w cs r) (hs:StayR w w'):RowW w' cs r:=by
 obtain ⟨vm,va,vh,vs,vk,e,h1,h2,h3,h4,h5⟩:=h
 exact ⟨vm,va,vh,vs,vk,e,hs.nums _ _ h1,h2.step hs,h3.step hs,h4.step hs,hs.nums _ _ h5⟩
theorem RowW.v {w:World} {cs:List Value} {r:RowP} (h:RowW w cs r):RowV w cs r:=by
 obtain ⟨vm,va,vh,vs,vk,e,h1,h2,h3,h4,h5⟩:=h
 exact ⟨vm,va,vh,vs,vk,e,h1,h2.here,h3.here,h4.here,h5⟩
theorem OwnQ.sysRow {w:World} {base:Nat} {e:TypeId} {v:Value} {n:Nat} {xs:List Value} {L:List RowP} (h:OwnQ w base e 7 v n xs) (hi:RecR 7 (RowW w) xs L):SysRow w v L:=by
 obtain ⟨A,c,rfl,h1,h2,h3⟩:=h.recs hi (h.count hi (by omega))
 refine ⟨A,c,rfl,h1,h2,fun hp=>?_⟩
 obtain ⟨b,rfl,h4⟩:=h3 hp
 refine ⟨b,0,rfl,fun i hi=>?_⟩
 obtain ⟨cs,hr,_,hc⟩:=h4 i hi
 refine ⟨cs,by rw [List.getD_eq_getElem?_getD,List.getElem?_eq_getElem hi];exact hr.v,fun j hj=>?_⟩
 rw [Nat.zero_add];exact hc j hj
def SysRowW (w:World) (lo:Nat) (v:Value) (L:List RowP):Prop:=∃ base e n xs,lo≤base∧OwnQ w base e 7 v n xs∧RecR 7 (RowW w) xs L
theorem SysRowW.row {w:World} {lo:Nat} {v:Value} {L:List RowP} (h:SysRowW w lo v L):SysRow w v L:=by
 obtain ⟨base,e,n,xs,_,h1,h2⟩:=h
 exact h1.sysRow h2
theorem SysRowW.nil (w:World) (lo:Nat):SysRowW w lo (.slice none 0 0) []:=⟨lo,0,0,[],Nat.le_refl _,OwnQ.nil _ _ _ _,RecR.nil _ _⟩
theorem OwnQ.softRow {w:World} {base:Nat} {e:TypeId} {v:Value} {n:Nat} {xs:List Value} {L:List RowP} {R:List Value→RowP→Prop} (h:OwnQ w base e 7 v n xs) (hi:RecR 7 R xs L) (hR:∀ cs r,R cs r→∃ b,cs[0]? = some (.bool b)):∀ g,v.ownBlock=some g→0<n→Soft w g:=by
 intro g hg hn
 refine ⟨h.2 g hg,fun m=>?_⟩
 have hcnt:=h.count hi (by omega)
 obtain ⟨cs,hr,hl,hc⟩:=hi.at 0 (by omega)
 obtain ⟨b,hb⟩:=hR cs _ hr
 have h0:=hc 0 (by omega)
 rw [Nat.zero_mul,hb] at h0
 have:=h.1.cells (g:=g) hg 0 _ h0
 have e:(⟨g,0,none⟩:Addr).add 0=⟨g,0,none⟩:=Me g 0
 rw [e] at this
 rw [this];simp
theorem StampRow.stay {w w':World} {v:Value} {L:List StampP} (h:StampRow w v L) (hs:StayR w w'):StampRow w' v L:=by
 obtain ⟨A,c,rfl,h1⟩:=h
 refine ⟨A,c,rfl,fun hp=>?_⟩
 obtain ⟨b,rfl,h2⟩:=h1 hp
 obtain ⟨cs0,⟨_,_,_,_,_,_,_,_,_,rfl,_⟩,hc0⟩:=h2 0 hp
 have hz:w.cell? ⟨b,0,none⟩=some (.int .i64 L[0].kind):=by have:=hc0 0 (by omega);rw [Nat.zero_mul] at this;exact this
 refine ⟨b,rfl,fun i hi=>?_⟩
 obtain ⟨cs,⟨a1,a2,a3,A1,n1,c1,A2,n2,c2,rfl,hn1,hn2⟩,hc⟩:=h2 i hi
 refine ⟨_,⟨a1,a2,a3,A1,n1,c1,A2,n2,c2,rfl,hs.nums _ _ hn1,hs.nums _ _ hn2⟩,fun j hj=>?_⟩
 have h3:=hc j hj
 have hl:j < [Value.int .i64 L[i].kind,.int .i64 L[i].row,.int .i64 L[i].col,.bool (decide (L[i].val.num<0)),.slice A1 n1 c1,.bool false,.slice A2 n2 c2].length:=hj
 rw [List.getElem?_eq_getElem hl] at h3 ⊢
 exact hs.ints b _ _ _ hz h3
theorem StampRow.at {w:World} {A:Option Addr} {n c:Nat} {L:List StampP} (h:StampRow w (.slice A n c) L) {i:Nat} (hi:i<L.length):∃ b A1 n1 c1 A2 n2 c2,A=some ⟨b,0,none⟩∧I64 L[i].col∧
  w.cell? ⟨b,i*7,none⟩=some (.int .i64 L[i].kind)∧w.cell? ⟨b,i*7+1,none⟩=some (.int .i64 L[i].row)∧w.cell? ⟨b,i*7+2,none⟩=some (.int .i64 L[i].col)∧w.cell? ⟨b,i*7+3,none⟩=some (.bool (decide (L[i].val.num<0)))∧
  w.cell? ⟨b,i*7+4,none⟩=some (.slice A1 n1 c1)∧w.cell? ⟨b,i*7+5,none⟩=some (.bool false)∧w.cell? ⟨b,i*7+6,none⟩=some (.slice A2 n2 c2)∧Nums w (.slice A1 n1 c1) (digs L[i].val.num)∧Nums w (.slice A2 n2 c2) (digs (L[i].val.den:Int)):=by
 obtain ⟨A',c',e,h1⟩:=h
 injection e with e1 e2 e3
 subst e1
 obtain ⟨b,rfl,h2⟩:=h1 (by omega)
 obtain ⟨cs,⟨a1,a2,a3,A1,n1,c1,A2,n2,c2,rfl,hn1,hn2⟩,hc⟩:=h2 i hi
 exact ⟨b,A1,n1,c1,A2,n2,c2,rfl,a3,hc 0 (by omega),hc 1 (by omega),hc 2 (by omega),hc 3 (by omega),hc 4 (by omega),hc 5 (by omega),hc 6 (by omega),hn1,hn2⟩
theorem A0x:(Tryz.prog.info? 52).map (fun i=>(i.zero,i.size,i.bytes))=some (some (.agg #[.bool false,.slice none 0 0,.slice none 0 0,.slice none 0 0,.slice none 0 0,.bool false,.slice none 0 0]),7,136):=by kernel_rfl
theorem Sz:NoD (Value.agg #[.bool false,.slice none 0 0,.slice none 0 0,.slice none 0 0,.slice none 0 0,.bool false,.slice none 0 0]).cells.toList:=by
 intro u hu n
 simp [Value.cells] at hu
 rcases hu with rfl | rfl | rfl | rfl<;>simp
theorem R4 (b1 b2:Bool) (A1 A2 A3 A4 A5:Option Addr) (n1 n2 n3 n4 n5 k1 k2 k3 k4 k5:Nat):NoD (#[Value.bool b1,.slice A1 n1 k1,.slice A2 n2 k2,.slice A3 n3 k3,.slice A4 n4 k4,.bool b2,.slice A5 n5 k5]).toList:=by
 intro u hu n
 simp only [List.mem_cons,List.not_mem_nil,or_false] at hu
 rcases hu with rfl | rfl | rfl | rfl | rfl | rfl | rfl<;>simp
theorem Yd (b1 b2:Bool) (A1 A2 A3 A4 A5:Option Addr) (n1 n2 n3 n4 n5 k1 k2 k3 k4 k5:Nat) (W:World):(Instr.buildSlice 36 1 #[(0,Value.agg #[Value.bool b1,.slice A1 n1 k1,.slice A2 n2 k2,.slice A3 n3 k3,.slice A4 n4 k4,.bool b2,.slice A5 n5 k5])]).run Tryz.prog W=.ok (.slice (some ⟨W.heap.size,0,none⟩) 1 1) (W.alloc (.cells #[Value.bool b1,.slice A1 n1 k1,.slice A2 n2 k2,.slice A3 n3 k3,.slice A4 n4 k4,.bool b2,.slice A5 n5 k5] 52)):=by kernel_rfl
theorem A05 {w:World} {b:Nat} {A:Option Addr} {n c:Nat} (h:Blk w b #[.slice A n c]):Soft w b:=by
 refine ⟨?_,fun n=>by rw [h.cell 0];simp⟩
 obtain ⟨T,hb⟩:=h
 refine C1 hb ?_
 intro u hu n
 simp at hu
 subst hu;simp
theorem K5 {P:Program} {w:World} {ops:Array Oper} {rest:List Oper} {o:Oper} {a:Act} {Q:Exit→Act→World→Prop} (hg:o.guard=none) (t e:TypeId) (x:Operand) (hop:o.op=Op.buildSlice t 1 #[(0,x)])
  (cs:Array Value) (hx:a.eval x=.agg cs) (hrun:∀ W:World,(Instr.buildSlice t 1 #[(0,Value.agg cs)]).run P W=.ok (.slice (some ⟨W.heap.size,0,none⟩) 1 1) (W.alloc (.cells cs e)))
  (hK:wpList P ops Q rest (a.put o.dst (.slice (some ⟨w.heap.size,0,none⟩) 1 1)) (w.alloc (.cells cs e))):wpList P ops Q (o::rest) a w:=by
 refine wpList_plain hg fun K' hK'=>?_
 unfold Oper.wp
 simp [execOp,hop,hx,hrun,Result.andThen]
 exact hK' _ _ hK
theorem Wz (W:World) (n:Nat) (hn:n≤48) :
  (Instr.makeSlice 106 (.int .i64 (n:Int)) (.int .i64 (n:Int))).run Tryz.prog W=.ok (.slice (some ⟨W.heap.size,0,none⟩) n n) (W.alloc (.cells (Array.replicate (n*5) (Value.map none)) 115)):=by
 have hz:(Tryz.prog.info? 115).map (fun i=>(i.zero,i.size,i.bytes))=some (some (.agg #[.map none,.map none,.map none,.map none,.map none]),5,40):=by kernel_rfl
 obtain ⟨i0,hi,hzz⟩:=Option.map_eq_some_iff.1 hz
 simp only [Prod.mk.injEq] at hzz
 obtain ⟨hz0,hz1,hz2⟩:=hzz
 have h:=run_make (P:=Tryz.prog) (w:=W) 106 115 i0 _ Tryz.underlying106 hi hz0 .i64 .i64 (n:Int) (n:Int) (by omega) (Int.le_refl _) (by rw [hz2];omega) (by omega)
 rw [show ((n:Int)).toNat=n by omega,hz1] at h
 have e:madeCells (Value.agg #[.map none,.map none,.map none,.map none,.map none]).cells (n*5)=Array.replicate (n*5) (Value.map none):=by
  apply Array.ext
  ·simp [madeCells]
  ·intro i h1 h2
   have h3:i % 5<5:=Nat.mod_lt _ (by omega)
   rcases (show i % 5=0∨i % 5=1∨i % 5=2∨i % 5=3∨i % 5=4 by omega) with h | h | h | h | h<;>simp [madeCells,Value.cells,h]
 rw [e] at h
 exact h
theorem Xq (W:World) (n:Nat) (T:TypeId):SumsS (W.alloc (.cells (Array.replicate (n*5) (Value.map none)) T)) W.heap.size W.heap.size n []:=by
 have he:(Array.replicate (n*5) (Value.map none))=((List.replicate (n*5) (none:Option Nat)).map Value.map).toArray:=by apply Array.ext';simp
 rw [he]
 refine ⟨List.replicate (n*5) none,fun _ _=>none,by simp,⟨Nat.le_refl _,⟨T,Bi _ _⟩,fun i mb h=>?_,fun _ _ _=>rfl,fun _ _ _=>rfl,fun _ _ _ _ h=>(by cases h),fun i j mb h=>?_,fun _ _ _ _ _ _ _ h=>(by cases h)⟩,fun i c=>by simp [hasQ]⟩
 ·rw [List.getElem?_replicate] at h;split at h<;>simp at h
 ·rw [List.getElem?_replicate] at h;split at h<;>simp at h
end
section
open Go.RowKit Go.Maps
open Rat
theorem Ik {xs ys ds:List Nat} {k q q' d:Nat} (hl:ds.length=k) (h:val 65536 (xs.take k)+65536 ^ k*q=val 65536 ds+val 65536 (ys.take k)) (hs:xs.getD k 0+65536*q'=d+q+ys.getD k 0) :
  val 65536 (xs.take (k+1))+65536 ^ (k+1)*q'=val 65536 (ds++[d])+val 65536 (ys.take (k+1)):=by
 rw [He,hl,B7,B7,Nat.pow_succ]
 simp only [val,Nat.mul_zero,Nat.add_zero]
 generalize 65536 ^ k=p at *
 have e:p*xs.getD k 0+p*65536*q'=p*d+p*q+p*ys.getD k 0:=by rw [Nat.mul_assoc,←Nat.mul_add,hs,Nat.mul_add,Nat.mul_add]
 omega
set_option maxRecDepth 100000 in
theorem Ia (w:World) (v1 v2:Value) (xs ys:List Nat) (hx:D16 w v1 xs) (hy:D16 w v2 ys) (lx:xs.length≤1099511627776) (ly:ys.length≤xs.length) (hge:val 65536 ys≤val 65536 xs) :
  Calls Tryz.prog 175 #[v1,v2] w fun e w'=>∃ v',e=.returned v'∧D16 w' v' (dig 65536 (val 65536 xs-val 65536 ys))∧From w.heap.size v'∧w.grownBy w' none:=by
 obtain ⟨A1,c1,rfl,_⟩:=hx.ctor
 obtain ⟨A2,c2,rfl,_⟩:=hy.ctor
 have HX:=Ac hx
 have HY:=Ac hy
 have HGE:=Ac hge
 clear hx hy hge
 go_enter Tryz.func175,Tryz.ntmps175
 go_wp2_with fail
 go_loopw [5,6,7] (fun bv cv i wr=>∃ (k q:Nat) (ds:List Nat),k≤xs.length∧q≤1∧i=.int .i64 k∧cv=.int .i64 q∧w.grownBy wr none∧Hid (OwnQ wr w.heap.size 3 1 bv k (i64s ds))∧Hid ((∀ d∈ds,d<65536)∧ds.length=k∧val 65536 (xs.take k)+65536 ^ k*q=val 65536 ds+val 65536 (ys.take k))) (fun _ _ i _=>(xs.length-intOf i).toNat)
 case atStart=>exact ⟨0,0,[],by omega,by omega,rfl,rfl,Al _ _,Ac (OwnQ.nil _ _ _ _),Ac ⟨by simp,rfl,by simp [val]⟩⟩
 case round =>
  obtain ⟨k,q,ds,hk,hq,rfl,rfl,hg,hown,hval⟩:=hrel
  by_cases a1:k<xs.length
  ·obtain ⟨b1,o1,rfl,u1,lx1⟩:=(HX.out.more hg).at a1
   generalize hxk:xs.getD k 0=x at *
   by_cases a2:k<ys.length
   ·obtain ⟨b2,o2,rfl,u2,ly1⟩:=(HY.out.more hg).at a2
    generalize hyk:ys.getD k 0=y at *
    by_cases hneg:(x:Int)-(q:Int)-(y:Int)<0
    ·obtain ⟨d,hS⟩:∃ d:Nat,(x:Int)-(q:Int)-(y:Int)+65536=(d:Int):=⟨((x:Int)-(q:Int)-(y:Int)+65536).toNat,by omega⟩
     have hd:d<65536:=by omega
     have HSUM:Hid (xs.getD k 0+65536*1=d+q+ys.getD k 0):=Ac (by rw [hxk,hyk];omega)
     clear hxk hyk
     have HLT:=Ac a1
     have hs1:=hg.size
     have HG:=Ac hg
     have HD:=Ac hd
     clear hg
     go_wp2_with (first
      | (at_builtin;refine Cu w.heap.size rfl (.tmp 35) (.tmp 37) 30 3 (.int .i64 0) 1 8 rfl Tryz.underlying30 Cm rfl (by omega) (by omega) u5 k (i64s ds) #[.int .i64 (d:Int)] (by rfl) hown.out (by rfl) (by rfl) (by simp [Value.oneCell']) (by omega) (by omega) (E9 _) E8 ?_;intro g cap w3 hown3 hgrow;have H3:=Ac (And.intro hown3 hgrow);clear hown3 hgrow)
      | fail)
     have hlt:=HLT.out
     refine ⟨⟨k+1,1,ds++[d],hlt,by omega,by go_num,by first | rfl | go_num,Gt (Ae HG.out (Af _ _ _)) (hown.out.more (Af _ _ _)) H3.out.2,Ac ?_,Ac ⟨?_,?_,?_⟩⟩,by simp [intOf];omega⟩
     ·have:=H3.out.1
      unfold i64s at *
      rw [List.map_append]
      simpa using this
     ·intro e he
      rcases List.mem_append.1 he with he | he
      ·exact hval.out.1 e he
      ·simp at he;have:=HD.out;omega
     ·rw [List.length_append,hval.out.2.1];rfl
     ·exact Ik hval.out.2.1 hval.out.2.2 HSUM.out
    ·obtain ⟨d,hS⟩:∃ d:Nat,(x:Int)-(q:Int)-(y:Int)=(d:Int):=⟨((x:Int)-(q:Int)-(y:Int)).toNat,by omega⟩
     have hd:d<65536:=by omega
     have HSUM:Hid (xs.getD k 0+65536*0=d+q+ys.getD k 0):=Ac (by rw [hxk,hyk];omega)
     rw [hS] at hneg
     clear hxk hyk
     have HLT:=Ac a1
     have hs1:=hg.size
     have HG:=Ac hg
     have HD:=Ac hd
     clear hg
     go_wp2_with (first
      | (at_builtin;refine Cu w.heap.size rfl (.tmp 35) (.tmp 37) 30 3 (.int .i64 0) 1 8 rfl Tryz.underlying30 Cm rfl (by omega) (by omega) u5 k (i64s ds) #[.int .i64 (d:Int)] (by rfl) hown.out (by rfl) (by rfl) (by simp [Value.oneCell']) (by omega) (by omega) (E9 _) E8 ?_;intro g cap w3 hown3 hgrow;have H3:=Ac (And.intro hown3 hgrow);clear hown3 hgrow)
      | fail)
     have hlt:=HLT.out
     refine ⟨⟨k+1,0,ds++[d],hlt,by omega,by go_num,by first | rfl | go_num,Gt (Ae HG.out (Af _ _ _)) (hown.out.more (Af _ _ _)) H3.out.2,Ac ?_,Ac ⟨?_,?_,?_⟩⟩,by simp [intOf];omega⟩
     ·have:=H3.out.1
      unfold i64s at *
      rw [List.map_append]
      simpa using this
     ·intro e he
      rcases List.mem_append.1 he with he | he
      ·exact hval.out.1 e he
      ·simp at he;have:=HD.out;omega
     ·rw [List.length_append,hval.out.2.1];rfl
     ·exact Ik hval.out.2.1 hval.out.2.2 HSUM.out
   ·have hyk:=Dj a2
    by_cases hneg:(x:Int)-(q:Int)<0
    ·obtain ⟨d,hS⟩:∃ d:Nat,(x:Int)-(q:Int)+65536=(d:Int):=⟨((x:Int)-(q:Int)+65536).toNat,by omega⟩
     have hd:d<65536:=by omega
     have HSUM:Hid (xs.getD k 0+65536*1=d+q+ys.getD k 0):=Ac (by rw [hxk,hyk];omega)
     clear hxk hyk
     have HLT:=Ac a1
     have hs1:=hg.size
     have HG:=Ac hg
     have HD:=Ac hd
     clear hg
     go_wp2_with (first
      | (at_builtin;refine Cu w.heap.size rfl (.tmp 35) (.tmp 37) 30 3 (.int .i64 0) 1 8 rfl Tryz.underlying30 Cm rfl (by omega) (by omega) u5 k (i64s ds) #[.int .i64 (d:Int)] (by rfl) hown.out (by rfl) (by rfl) (by simp [Value.oneCell']) (by omega) (by omega) (E9 _) E8 ?_;intro g cap w3 hown3 hgrow;have H3:=Ac (And.intro hown3 hgrow);clear hown3 hgrow)
      | fail)
     have hlt:=HLT.out
     refine ⟨⟨k+1,1,ds++[d],hlt,by omega,by go_num,by first | rfl | go_num,Gt (Ae HG.out (Af _ _ _)) (hown.out.more (Af _ _ _)) H3.out.2,Ac ?_,Ac ⟨?_,?_,?_⟩⟩,by simp [intOf];omega⟩
     ·have:=H3.out.1
      unfold i64s at *
      rw [List.map_append]
      simpa using this
     ·intro e he
      rcases List.mem_append.1 he with he | he
      ·exact hval.out.1 e he
      ·simp at he;have:=HD.out;omega
     ·rw [List.length_append,hval.out.2.1];rfl
     ·exact Ik hval.out.2.1 hval.out.2.2 HSUM.out
    ·obtain ⟨d,hS⟩:∃ d:Nat,(x:Int)-(q:Int)=(d:Int):=⟨((x:Int)-(q:Int)).toNat,by omega⟩
     have hd:d<65536:=by omega
     have HSUM:Hid (xs.getD k 0+65536*0=d+q+ys.getD k 0):=Ac (by rw [hxk,hyk];omega)
     rw [hS] at hneg
     clear hxk hyk
     have HLT:=Ac a1
     have hs1:=hg.size
     have HG:=Ac hg
     have HD:=Ac hd
     clear hg
     go_wp2_with (first
      | (at_builtin;refine Cu w.heap.size rfl (.tmp 35) (.tmp 37) 30 3 (.int .i64 0) 1 8 rfl Tryz.underlying30 Cm rfl (by omega) (by omega) u5 k (i64s ds) #[.int .i64 (d:Int)] (by rfl) hown.out (by rfl) (by rfl) (by simp [Value.oneCell']) (by omega) (by omega) (E9 _) E8 ?_;intro g cap w3 hown3 hgrow;have H3:=Ac (And.intro hown3 hgrow);clear hown3 hgrow)
      | fail)
     have hlt:=HLT.out
     refine ⟨⟨k+1,0,ds++[d],hlt,by omega,by go_num,by first | rfl | go_num,Gt (Ae HG.out (Af _ _ _)) (hown.out.more (Af _ _ _)) H3.out.2,Ac ?_,Ac ⟨?_,?_,?_⟩⟩,by simp [intOf];omega⟩
     ·have:=H3.out.1
      unfold i64s at *
      rw [List.map_append]
      simpa using this
     ·intro e he
      rcases List.mem_append.1 he with he | he
      ·exact hval.out.1 e he
      ·simp at he;have:=HD.out;omega
     ·rw [List.length_append,hval.out.2.1];rfl
     ·exact Ik hval.out.2.1 hval.out.2.2 HSUM.out
  ·obtain rfl:k=xs.length:=by omega
   have hd:D16 wr u5 ds:=hown.out.d16 hval.out.2.1.symm hval.out.1
   have HD:=Ac hd
   have HFR:=Ac hown.out.from
   have HV:Hid (val 65536 ds=val 65536 xs-val 65536 ys):=Ac (by
    obtain ⟨h1,h2,h3⟩:=hval.out
    rw [List.take_length,Ce _ _ _ ly] at h3
    have h4:=Ef 65536 ds h1
    rw [h2] at h4
    have h5:=HGE.out
    have h6:q=0∨q=1:=by omega
    rcases h6 with h6 | h6
    ·rw [h6] at h3;omega
    ·rw [h6] at h3;omega)
   clear hown hval hd
   go_wp2_with fail
   refine (Fu wr u5 ds HD.out).mono ?_
   rintro e w' ⟨v',rfl,hd1,hob,rfl⟩
   rw [HV.out] at hd1
   have HD1:=Ac hd1
   have HOB:=Ac hob
   clear hd1 hob
   go_wp2_with fail
   go_ret
   exact ⟨v',rfl,HD1.out,fun b hb=>HFR.out b (by rw [←HOB.out];exact hb),hg⟩
end
section
open Go.RowKit Go.Maps
open Rat
theorem Ei (z:Int):val 65536 (d16 z)=z.natAbs:=Ck 65536 (by omega) _
theorem Zw {x y:Int} (h:decide (x<0)=decide (y<0)):x.natAbs+y.natAbs=(x+y).natAbs:=by
 by_cases hx:x<0
 ·rw [decide_eq_true hx] at h;have:=of_decide_eq_true h.symm;omega
 ·rw [decide_eq_false hx] at h;have:=of_decide_eq_false h.symm;omega
theorem S7 {x y:Int} (h:¬ decide (x<0)=decide (y<0)) (hle:y.natAbs≤x.natAbs):x.natAbs-y.natAbs=(x+y).natAbs:=by
 by_cases hx:x<0
 ·by_cases hy:y<0
  ·exact absurd (by rw [decide_eq_true hx,decide_eq_true hy]) h
  ·omega
 ·by_cases hy:y<0
  ·omega
  ·exact absurd (by rw [decide_eq_false hx,decide_eq_false hy]) h
theorem Ns {x y:Int} (h:y.natAbs≤x.natAbs):(d16 y).length≤(d16 x).length:=by
 have hB:2≤65536:=by omega
 refine (Bz 65536 hB y.natAbs _).2 ?_
 have:=(Bz 65536 hB x.natAbs (d16 x).length).1 (Nat.le_refl _)
 omega
set_option maxRecDepth 100000 in
theorem Rl (w:World) (v1 v2:Value) (x y:Int) (hx:NZ w v1 x) (hy:NZ w v2 y) (lx:(d16 x).length≤1099511627776) (ly:(d16 y).length≤1099511627776) :
    Calls Tryz.prog 120 #[v1,v2] w fun e w'=>∃ nv,e=.returned nv∧NZ w' nv (x+y)∧w.grownBy w' none:=by
  obtain ⟨u1,rfl,hx⟩:=hx
  obtain ⟨u2,rfl,hy⟩:=hy
  obtain ⟨A1,c1,rfl,_⟩:=hx.ctor
  obtain ⟨A2,c2,rfl,_⟩:=hy.ctor
  have LX:=Ac lx
  have LY:=Ac ly
  have hn1:decide (x<0)=decide (x<0):=rfl
  generalize hm1:(d16 x).length=m1 at *
  generalize hm2:(d16 y).length=m2 at *
  generalize hd1:decide (x<0)=n1 at *
  generalize hd2:decide (y<0)=n2 at *
  have HN1:=Ac hd1
  have HN2:=Ac hd2
  clear hn1 hd1 hd2 lx ly
  have gw:=Ae (Ae (Af w (.cells #[.bool n1,.slice A1 m1 c1] 122) none) (Af _ (.cells #[.bool n2,.slice A2 m2 c2] 122) none)) (Af _ (.cells #[.bool false,.slice none 0 0] 122) none)
  have hB1:=(Blk.new w #[.bool n1,.slice A1 m1 c1] 122).more (Ae (Af _ (.cells #[.bool n2,.slice A2 m2 c2] 122) none) (Af _ (.cells #[.bool false,.slice none 0 0] 122) none))
  have hB2:=(Blk.new (w.alloc (.cells #[.bool n1,.slice A1 m1 c1] 122)) #[.bool n2,.slice A2 m2 c2] 122).more (Af _ (.cells #[.bool false,.slice none 0 0] 122) none)
  have hB3:=Blk.new ((w.alloc (.cells #[.bool n1,.slice A1 m1 c1] 122)).alloc (.cells #[.bool n2,.slice A2 m2 c2] 122)) #[.bool false,.slice none 0 0] 122
  rw [World.size_alloc] at hB2 hB3
  rw [World.size_alloc] at hB3
  have hsz:(((w.alloc (.cells #[.bool n1,.slice A1 m1 c1] 122)).alloc (.cells #[.bool n2,.slice A2 m2 c2] 122)).alloc (.cells #[.bool false,.slice none 0 0] 122)).heap.size=w.heap.size+3:=by simp
  have HX:=Ac (hx.more gw)
  have HY:=Ac (hy.more gw)
  have HB1:=Ac hB1
  have HB2:=Ac hB2
  have HB3:=Ac hB3
  have HSZ:=Ac hsz
  have HGW:=Ac gw
  clear hx hy hB1 hB2 hB3 hsz gw
  have HM1:=Ac hm1
  have HM2:=Ac hm2
  clear hm1 hm2
  by_cases hsame:n1=n2
  · subst hsame
    have t:(n1==n1)=true:=by simp
    go_enter Tryz.func120,Tryz.ntmps120
    go_wp2_with fail
    generalize ((w.alloc (.cells #[.bool n1,.slice A1 m1 c1] 122)).alloc (.cells #[.bool n1,.slice A2 m2 c2] 122)).alloc (.cells #[.bool false,.slice none 0 0] 122)=wa at *
    generalize hs:w.heap.size=s at *
    have HS:=Ac hs
    clear hs
    obtain ⟨x0,x1,_⟩:=HB1.out.two
    obtain ⟨y0,y1,_⟩:=HB2.out.two
    refine (Rn wa _ _ _ _ HX.out HY.out (by rw [HM1.out];exact LX.out) (by rw [HM2.out];exact LY.out)).mono ?_
    rintro e w1 ⟨v5,rfl,hd5,hf5,hg5⟩
    rw [Ei,Ei,Zw (HN1.out.trans HN2.out.symm)] at hd5
    change D16 w1 v5 (d16 (x+y)) at hd5
    obtain ⟨A5,c5,rfl,hl5⟩:=hd5.ctor
    have HZ0:Hid ((d16 (x+y)).length=0↔x+y=0):=Ac (by rw [List.length_eq_zero_iff];exact L0)
    have HD5:=Ac hd5
    have HFAR:Hid ((Value.slice A5 (d16 (x+y)).length c5).ownBlock≠some (s+1+1)):=Ac (fun e=>by have h1:=hf5 _ e;have h2:=HSZ.out;omega)
    have HG1:=Ac (Ae HGW.out hg5)
    clear x0 x1 y0 y1
    obtain ⟨x0,x1,_⟩:=(HB1.out.more hg5).two
    obtain ⟨y0,y1,_⟩:=(HB2.out.more hg5).two
    obtain ⟨d0,d1,f0,f1⟩:=(HB3.out.more hg5).two
    clear hd5 hf5 hg5
    generalize (d16 (x+y)).length=n5 at *
    cases n1 with
    | false =>
      have HSGN:Hid (decide (x+y<0)=false):=Ac (by have h1:=of_decide_eq_false HN1.out;have h2:=of_decide_eq_false HN2.out;exact decide_eq_false (by omega))
      go_wp2
      try simp only [Exit.inBlock,Exit.then]
      have hg6:w1.grownBy ((w1.setCell ⟨s+1+1,0,none⟩ (.bool false)).setCell ⟨s+1+1,1,none⟩ (.slice A5 n5 c5)) (some (s+1+1)):=Ae (Au _ _ _ _) (Au _ _ _ _)
      refine bodyPost_ret (v:=.agg #[.bool false,.slice A5 n5 c5]) (by simp [results,Tryz.results120,go_sem, *]) rfl ⟨_,rfl,⟨.slice A5 n5 c5,?_,?_⟩,Aw HG1.out hg6 (by have:=HS.out;omega)⟩
      · rw [HSGN.out]
      · exact HD5.out.apart hg6 HFAR.out
    | true =>
      have hneg:x+y<0:=by have h1:=of_decide_eq_true HN1.out;have h2:=of_decide_eq_true HN2.out;omega
      have HSGN:Hid (decide (x+y<0)=true):=Ac (decide_eq_true hneg)
      have hp:0<n5:=Nat.pos_of_ne_zero (fun e=>by have:=HZ0.out.1 e;omega)
      have t0:(0:Int)<(n5:Int):=by omega
      clear hneg
      go_wp2
      try simp only [Exit.inBlock,Exit.then]
      have hg6:w1.grownBy ((w1.setCell ⟨s+1+1,0,none⟩ (.bool true)).setCell ⟨s+1+1,1,none⟩ (.slice A5 n5 c5)) (some (s+1+1)):=Ae (Au _ _ _ _) (Au _ _ _ _)
      refine bodyPost_ret (v:=.agg #[.bool true,.slice A5 n5 c5]) (by simp [results,Tryz.results120,go_sem, *]) rfl ⟨_,rfl,⟨.slice A5 n5 c5,?_,?_⟩,Aw HG1.out hg6 (by have:=HS.out;omega)⟩
      · rw [HSGN.out]
      · exact HD5.out.apart hg6 HFAR.out
  · have t:(n1==n2)=false:=by rw [beq_eq_false_iff_ne];exact hsame
    have HNE:=Ac hsame
    clear hsame
    go_enter Tryz.func120,Tryz.ntmps120
    go_wp2_with fail
    generalize ((w.alloc (.cells #[.bool n1,.slice A1 m1 c1] 122)).alloc (.cells #[.bool n2,.slice A2 m2 c2] 122)).alloc (.cells #[.bool false,.slice none 0 0] 122)=wa at *
    generalize hs:w.heap.size=s at *
    have HS:=Ac hs
    clear hs
    obtain ⟨x0,x1,_⟩:=HB1.out.two
    obtain ⟨y0,y1,_⟩:=HB2.out.two
    refine (Gw wa _ _ _ _ HX.out HY.out).mono ?_
    rintro e w0 ⟨rfl,hg0⟩
    by_cases hle:y.natAbs≤x.natAbs
    · have hc:(0:Int)≤cmpN x.natAbs y.natAbs:=by unfold cmpN;rw [if_neg (by omega)];split<;>omega
      have HLE:=Ac hle
      clear hle
      generalize cmpN x.natAbs y.natAbs=r at *
      clear x0 x1 y0 y1
      obtain ⟨x0,x1,_⟩:=(HB1.out.more hg0).two
      obtain ⟨y0,y1,_⟩:=(HB2.out.more hg0).two
      have HG0:=Ac hg0
      clear hg0
      go_wp2_with fail
      refine (Ia w0 _ _ _ _ (HX.out.more HG0.out) (HY.out.more HG0.out) (by rw [HM1.out];exact LX.out) (Ns HLE.out) (by rw [Ei,Ei];exact HLE.out)).mono ?_
      rintro e w1 ⟨v5,rfl,hd5,hf5,hg5'⟩
      have hg5:=Ae HG0.out hg5'
      have hf5:From wa.heap.size v5:=hf5.mono HG0.out.size
      clear hg5'
      rw [Ei,Ei,S7 (fun e=>HNE.out (HN1.out.symm.trans (e.trans HN2.out))) HLE.out] at hd5
      change D16 w1 v5 (d16 (x+y)) at hd5
      obtain ⟨A5,c5,rfl,hl5⟩:=hd5.ctor
      have HZ0:Hid ((d16 (x+y)).length=0↔x+y=0):=Ac (by rw [List.length_eq_zero_iff];exact L0)
      have HD5:=Ac hd5
      have HFAR:Hid ((Value.slice A5 (d16 (x+y)).length c5).ownBlock≠some (s+1+1)):=Ac (fun e=>by have h1:=hf5 _ e;have h2:=HSZ.out;omega)
      have HG1:=Ac (Ae HGW.out hg5)
      clear x0 x1 y0 y1
      obtain ⟨x0,x1,_⟩:=(HB1.out.more hg5).two
      obtain ⟨y0,y1,_⟩:=(HB2.out.more hg5).two
      obtain ⟨d0,d1,f0,f1⟩:=(HB3.out.more hg5).two
      clear hd5 hf5 hg5
      generalize (d16 (x+y)).length=n5 at *
      cases n1 with
      | false =>
        have HSGN:Hid (decide (x+y<0)=false):=Ac (by have h1:=of_decide_eq_false HN1.out;have h2:=HLE.out;exact decide_eq_false (by omega))
        go_wp2
        try simp only [Exit.inBlock,Exit.then]
        have hg6:w1.grownBy ((w1.setCell ⟨s+1+1,0,none⟩ (.bool false)).setCell ⟨s+1+1,1,none⟩ (.slice A5 n5 c5)) (some (s+1+1)):=Ae (Au _ _ _ _) (Au _ _ _ _)
        refine bodyPost_ret (v:=.agg #[.bool false,.slice A5 n5 c5]) (by simp [results,Tryz.results120,go_sem, *]) rfl ⟨_,rfl,⟨.slice A5 n5 c5,?_,?_⟩,Aw HG1.out hg6 (by have:=HS.out;omega)⟩
        · rw [HSGN.out]
        · exact HD5.out.apart hg6 HFAR.out
      | true =>
        have h1:=of_decide_eq_true HN1.out
        have h2:¬ y<0:=fun h=>HNE.out (by rw [←HN2.out,decide_eq_true h])
        by_cases hz:n5=0
        · subst hz
          have h3:=HZ0.out.1 rfl
          have HSGN:Hid (decide (x+y<0)=false):=Ac (decide_eq_false (by omega))
          clear h1 h2 h3
          go_wp2
          try simp only [Exit.inBlock,Exit.then]
          have hg6:w1.grownBy ((w1.setCell ⟨s+1+1,0,none⟩ (.bool false)).setCell ⟨s+1+1,1,none⟩ (.slice A5 0 c5)) (some (s+1+1)):=Ae (Au _ _ _ _) (Au _ _ _ _)
          refine bodyPost_ret (v:=.agg #[.bool false,.slice A5 0 c5]) (by simp [results,Tryz.results120,go_sem, *]) rfl ⟨_,rfl,⟨.slice A5 0 c5,?_,?_⟩,Aw HG1.out hg6 (by have:=HS.out;omega)⟩
          · rw [HSGN.out]
          · exact HD5.out.apart hg6 HFAR.out
        · have h3:x+y≠0:=fun e=>hz (HZ0.out.2 e)
          have h4:=HLE.out
          have HSGN:Hid (decide (x+y<0)=true):=Ac (decide_eq_true (by omega))
          have hp:0<n5:=by omega
          have t0:(0:Int)<(n5:Int):=by omega
          clear h1 h2 h3 h4 hz
          go_wp2
          try simp only [Exit.inBlock,Exit.then]
          have hg6:w1.grownBy ((w1.setCell ⟨s+1+1,0,none⟩ (.bool true)).setCell ⟨s+1+1,1,none⟩ (.slice A5 n5 c5)) (some (s+1+1)):=Ae (Au _ _ _ _) (Au _ _ _ _)
          refine bodyPost_ret (v:=.agg #[.bool true,.slice A5 n5 c5]) (by simp [results,Tryz.results120,go_sem, *]) rfl ⟨_,rfl,⟨.slice A5 n5 c5,?_,?_⟩,Aw HG1.out hg6 (by have:=HS.out;omega)⟩
          · rw [HSGN.out]
          · exact HD5.out.apart hg6 HFAR.out
    · have hc:¬ (0:Int)≤cmpN x.natAbs y.natAbs:=by unfold cmpN;rw [if_pos (by omega)];omega
      have HLE:Hid (x.natAbs<y.natAbs):=Ac (by omega)
      clear hle
      generalize cmpN x.natAbs y.natAbs=r at *
      clear x0 x1 y0 y1
      have K:∀ w',w0.grownBy w' none→w'.cell? ⟨s+1,0,none⟩=some (.bool n2)∧w'.cell? ⟨s+1,1,none⟩=some (.slice A2 m2 c2)∧w'.cell? ⟨s,1,none⟩=some (.slice A1 m1 c1):=fun w' h=>⟨(HB2.out.more (Ae hg0 h)).cell 0,(HB2.out.more (Ae hg0 h)).cell 1,(HB1.out.more (Ae hg0 h)).cell 1⟩
      obtain ⟨x0,_⟩:=(HB1.out.more hg0).two
      obtain ⟨k0,k1,k2⟩:=K _ (Al _ _)
      have HK:=Ac K
      have HG0:=Ac hg0
      have ne1:s+1+1≠s:=by omega
      have ne2:s≠s+1+1:=by omega
      clear hg0 K
      go_wp2_with fail
      go_region_held3 (fun w'=>w'.cell? ⟨s+1,0,none⟩=some (.bool n2)∧w'.cell? ⟨s+1,1,none⟩=some (.slice A2 m2 c2)∧w'.cell? ⟨s,1,none⟩=some (.slice A1 m1 c1)) (first | go_keep | exact HK.out _ (by (focus ((repeat (first | assumption | exact Al _ _ | exact Ai _ _ | exact Af _ _ _ | refine Ae ?_ (Af _ _ _) | refine Ae ?_ (Ai _ _) | refine Ae ?_ (by assumption)));done))))
       (first
       | (go_at_call 175;refine (Ia _ _ _ _ _ (HY.out.more (Ae HG0.out (by (focus ((repeat (first | assumption | exact Al _ _ | exact Ai _ _ | exact Af _ _ _ | refine Ae ?_ (Af _ _ _) | refine Ae ?_ (Ai _ _) | refine Ae ?_ (by assumption)));done))))) (HX.out.more (Ae HG0.out (by (focus ((repeat (first | assumption | exact Al _ _ | exact Ai _ _ | exact Af _ _ _ | refine Ae ?_ (Af _ _ _) | refine Ae ?_ (Ai _ _) | refine Ae ?_ (by assumption)));done))))) (by rw [HM2.out];exact LY.out) (Ns (Nat.le_of_lt HLE.out)) (by rw [Ei,Ei];exact Nat.le_of_lt HLE.out)).mono ?_;rintro e w1 ⟨v5,rfl,hd5,hf5,hg5'⟩;rw [Ei,Ei,S7 (fun e=>HNE.out (HN1.out.symm.trans (e.symm.trans HN2.out))) (Nat.le_of_lt HLE.out),Int.add_comm] at hd5;have hd5:D16 w1 v5 (d16 (x+y)):=hd5;obtain ⟨A5,c5,rfl,hl5⟩:=hd5.ctor;have hf6:=hf5.mono (Ae HG0.out (show w0.grownBy _ none by (focus ((repeat (first | assumption | exact Al _ _ | exact Ai _ _ | exact Af _ _ _ | refine Ae ?_ (Af _ _ _) | refine Ae ?_ (Ai _ _) | refine Ae ?_ (by assumption)));done)))).size;have HD5:=Ac hd5;have HF6:=Ac hf6;clear hf5 hf6;have g5:w0.grownBy w1 none:=Ae (by (focus ((repeat (first | assumption | exact Al _ _ | exact Ai _ _ | exact Af _ _ _ | refine Ae ?_ (Af _ _ _) | refine Ae ?_ (Ai _ _) | refine Ae ?_ (by assumption)));done))) hg5';obtain ⟨d0,d1,f0,f1⟩:=(HB3.out.more (Ae HG0.out g5)).two))
      all_goals
        have HFAR:Hid ((Value.slice A5 (d16 (x+y)).length c5).ownBlock≠some (s+1+1)):=Ac (fun e=>by have h1:=HF6.out _ e;have h2:=HSZ.out;omega)
        have HG1:=Ac (Ae HGW.out (Ae HG0.out g5))
        have HSGN:Hid (decide (x+y<0)=n2):=Ac (by
          rw [←HN2.out]
          have h1:=HLE.out
          by_cases hy:y<0
          · rw [decide_eq_true hy];exact decide_eq_true (by omega)
          · rw [decide_eq_false hy];exact decide_eq_false (by omega))
        go_wp2
        try simp only [Exit.inBlock,Exit.then]
        have hg6:w1.grownBy ((w1.setCell ⟨s+1+1,0,none⟩ (.bool n2)).setCell ⟨s+1+1,1,none⟩ (.slice A5 (d16 (x+y)).length c5)) (some (s+1+1)):=Ae (Au _ _ _ _) (Au _ _ _ _)
        refine bodyPost_ret (v:=.agg #[.bool n2,.slice A5 (d16 (x+y)).length c5]) (by simp [results,Tryz.results120,go_sem, *]) rfl ⟨_,rfl,⟨.slice A5 (d16 (x+y)).length c5,?_,?_⟩,Aw HG1.out hg6 (by have:=HS.out;omega)⟩
        · rw [HSGN.out]
        · exact HD5.out.apart hg6 HFAR.out
end
section
open Go.RowKit Go.Maps
open Rat
theorem Kb {a b c:World} {row:Option Nat} {e:TypeId} {size n:Nat} {v:Value} {xs:List Value} (h:a.grownBy b row) (ho:OwnQ b a.heap.size e size v n xs) (k:b.grownBy c v.ownBlock):a.grownBy c row:=by
 rcases ho.1.2 with ⟨rfl,_⟩ | ⟨g,cap,cur,rfl,hb,_⟩
 ·exact Ae h (C0 k)
 ·exact Aw h k hb
set_option maxRecDepth 100000 in
theorem Rm (w:World) (z:Int) (h1:-9223372036854775808≤z) (h2:z≤9223372036854775807) :
  Calls Tryz.prog 121 #[.int .i64 z] w fun e w'=>∃ nv,e=.returned nv∧NZ w' nv z∧w.grownBy w' none:=by
 have gw:=Ae (Af w (.cells #[.bool false,.slice none 0 0] 122) none) (Af _ (.cells #[.bool false,.slice none 0 0] 122) none)
 have hB1:=(Blk.new w #[.bool false,.slice none 0 0] 122).more (Af _ (.cells #[.bool false,.slice none 0 0] 122) none)
 have hB2:=Blk.new (w.alloc (.cells #[.bool false,.slice none 0 0] 122)) #[.bool false,.slice none 0 0] 122
 rw [World.size_alloc] at hB2
 have HGW:=Ac gw
 have HB1:=Ac hB1
 have HB2:=Ac hB2
 clear gw hB1 hB2
 by_cases hz:z<0
 ·obtain ⟨N,rfl⟩:∃ N:Nat,z = -(N:Int):=⟨z.natAbs,by omega⟩
  have c1:IntKind.u64.wrap (-(N:Int))=18446744073709551616-N:=by rw [IntKind.wrap_u64];omega
  have c2:IntKind.u64.wrap (0-(18446744073709551616-(N:Int)))=N:=by rw [IntKind.wrap_u64];omega
  have c3:IntKind.u64.wrap (-(18446744073709551616-(N:Int)))=N:=by rw [IntKind.wrap_u64];omega
  have t0:-(N:Int)<0:=hz
  have HSG:Hid (decide (-(N:Int)<0)=true):=Ac (decide_eq_true hz)
  have HD16:Hid (d16 (-(N:Int))=dig 65536 N):=Ac (by unfold d16;rw [Int.natAbs_neg];rfl)
  clear hz
  obtain ⟨d0,d1,f0,f1⟩:=HB2.out.two
  go_enter Tryz.func121,Tryz.ntmps121
  go_wp2_with fail
  have HGW:=Ac (Ae (Af w (.cells #[.bool false,.slice none 0 0] 122) none) (Af _ (.cells #[.bool true,.slice none 0 0] 122) none))
  have HB1:=Ac ((Blk.new w #[.bool false,.slice none 0 0] 122).more (Af _ (.cells #[.bool true,.slice none 0 0] 122) none))
  have hB2:=Blk.new (w.alloc (.cells #[.bool false,.slice none 0 0] 122)) #[.bool true,.slice none 0 0] 122
  rw [World.size_alloc] at hB2
  have HB2:=Ac hB2
  clear d0 d1 f0 f1 hB2
  generalize (w.alloc (.cells #[.bool false,.slice none 0 0] 122)).alloc (.cells #[.bool true,.slice none 0 0] 122)=wa at *
  generalize hs:w.heap.size=s at *
  have HS:=Ac hs
  clear hs c1 c2 c3 t0
  go_loopw [4] (fun mv wr=>∃ m:Nat,mv=.int .u64 m∧Hid (m≤N∧∃ (k:Nat) (ds:List Nat) (Ab:Option Addr) (cb:Nat),wa.grownBy wr (some (s+1))∧Hid (Blk wr (s+1) #[.bool true,.slice Ab k cb])∧Hid (OwnQ wr wa.heap.size 3 1 (.slice Ab k cb) k (i64s ds))∧Hid (dig 65536 N=ds++dig 65536 m))) (fun mv _=>(intOf mv).toNat)
  case atStart=>exact ⟨N,rfl,Ac ⟨Nat.le_refl _,0,[],none,0,Al _ _,HB2,Ac (OwnQ.nil _ _ _ _),Ac rfl⟩⟩
  case round =>
   obtain ⟨m,rfl,hrr⟩:=hrel
   obtain ⟨hmN,k,ds,Ab,cb,hg,hblk,hown,hdig⟩:=hrr.out
   clear hrr
   obtain ⟨d0,d1,f0,f1⟩:=hblk.out.two
   have hlt2:=HB2.out.lt
   have hne:(Value.slice Ab k cb).ownBlock≠some (s+1):=fun e=>by have:=hown.out.from _ e;omega
   have HNE:=Ac hne
   have hkd:ds.length=k:=by have:=hown.out.1.1;simpa [i64s] using this
   have HKD:=Ac hkd
   by_cases hm:0<m
   ·have hk4:k≤4:=by
     have a:=(Bz 65536 (by omega) N 4).2 (by omega)
     rw [hdig.out,List.length_append] at a
     omega
    have r1:(m:Int).tmod 65536=(m:Int) % 65536:=Int.tmod_eq_emod_of_nonneg (by omega)
    have r2:(m:Int).tdiv 65536=(m:Int)/65536:=Int.tdiv_eq_ediv_of_nonneg (by omega)
    have r3:IntKind.i64.wrap ((m:Int) % 65536)=(m:Int) % 65536:=IntWalk.i64_in _ (by omega)
    have r4:IntKind.u64.wrap ((m:Int)/65536)=(m:Int)/65536:=IntWalk.u64_in _ (by omega)
    have r5:IntKind.u64.wrap ((m:Int) % 65536)=(m:Int) % 65536:=IntWalk.u64_in _ (by omega)
    have hs1:=hg.size
    have HM:=Ac hm
    have HG:=Ac hg
    have HMN:=Ac hmN
    clear hne hkd hg hmN
    go_wp2_with (first
     | (at_builtin;refine Cu wa.heap.size rfl (.tmp 15) (.tmp 19) 30 3 (.int .i64 0) 1 8 rfl Tryz.underlying30 Cm rfl (by omega) (by omega) (.slice Ab k cb) k (i64s ds) #[.int .i64 ((m:Int) % 65536)] (by rfl) hown.out (by rfl) (by rfl) (by simp [Value.oneCell']) (by omega) (by omega) (E9 _) E8 ?_;intro g cap w3 hown3 hgrow;obtain ⟨d0,d1,f0,f1⟩:=((hblk.out.more (Af _ _ _)).row hgrow HNE.out).two;have HX:=Ac ((hblk.out.more (Af _ _ _)).row hgrow HNE.out);have H3:=Ac (And.intro hown3 hgrow);clear hown3 hgrow)
     | fail)
    have hm:=HM.out
    have hmn:=HMN.out
    have hgr:=Ae (Kb (Ae HG.out (Af _ _ _)) (hown.out.more (Af _ _ _)) H3.out.2) (Au w3 (s+1) 1 (.slice (some ⟨g,0,none⟩) (k+1) cap))
    have hbl:=Ac (show Blk _ (s+1) #[.bool true,.slice (some ⟨g,0,none⟩) (k+1) cap] from HX.out.set 1 (.slice (some ⟨g,0,none⟩) (k+1) cap))
    have how:Hid (OwnQ (w3.setCell ⟨s+1,1,none⟩ (.slice (some ⟨g,0,none⟩) (k+1) cap)) wa.heap.size 3 1 (.slice (some ⟨g,0,none⟩) (k+1) cap) (k+1) (i64s (ds++[m % 65536]))):=Ac (by
     have h3:=H3.out.1
     have hgs:=h3.from g rfl
     have hlt2:=HB2.out.lt
     have h4:=h3.other (Au w3 (s+1) 1 (.slice (some ⟨g,0,none⟩) (k+1) cap)) (by simp [Value.ownBlock];omega)
     unfold i64s at *
     rw [List.map_append]
     simpa using h4)
    have hdg:Hid (dig 65536 N=(ds++[m % 65536])++dig 65536 (m/65536)):=Ac (by rw [hdig.out,G8 65536 m (by omega) (by omega),List.append_assoc];rfl)
    have hle:m/65536≤N:=by omega
    exact ⟨⟨m/65536,by first | rfl | go_num | omega,by first | exact Ac ⟨hle,k+1,_,_,_,hgr,hbl,how,hdg⟩ | exact Ac ⟨hle,hgr,k+1,_,_,_,hbl,how,hdg⟩⟩,by simp [intOf];omega⟩
   ·obtain rfl:m=0:=by omega
    have hdn:dig 65536 N=ds:=by rw [hdig.out,Dw,List.append_nil]
    have hd:D16 wr (.slice Ab k cb) ds:=hown.out.d16 HKD.out.symm (by rw [←hdn];exact Ev 65536 (by omega) N)
    have HD:=Ac hd
    have HDN:=Ac hdn
    have hlt1:=HB1.out.lt
    obtain ⟨x0,x1,y0,y1⟩:=(HB1.out.other hg (by omega)).two
    have hfar:(Value.slice Ab k cb).ownBlock≠some s:=fun e=>by have:=hown.out.from _ e;omega
    have HFAR:=Ac hfar
    have HG:=Ac (Aw HGW.out hg (by have:=HS.out;omega))
    clear hdn hd hfar hne hkd hg hdig hown
    go_wp2
    try simp only [Exit.inBlock,Exit.then]
    have hg6:wr.grownBy ((wr.setCell ⟨s,0,none⟩ (.bool true)).setCell ⟨s,1,none⟩ (.slice Ab k cb)) (some s):=Ae (Au _ _ _ _) (Au _ _ _ _)
    refine bodyPost_ret (v:=.agg #[.bool true,.slice Ab k cb]) (by simp [results,Tryz.results121,go_sem, *]) rfl ⟨_,rfl,⟨.slice Ab k cb,?_,?_⟩,Aw HG.out hg6 (by have:=HS.out;omega)⟩
    ·rw [HSG.out]
    ·have:=HD.out.apart hg6 HFAR.out
     rw [←HDN.out] at this
     rw [HD16.out];exact this
 ·have c1:IntKind.u64.wrap z=z:=IntWalk.u64_in _ (by omega)
  obtain ⟨N,rfl⟩:∃ N:Nat,z=N:=⟨z.toNat,by omega⟩
  have t0:¬ (N:Int)<0:=hz
  clear hz
  go_enter Tryz.func121,Tryz.ntmps121
  go_wp2_with fail
  generalize (w.alloc (.cells #[.bool false,.slice none 0 0] 122)).alloc (.cells #[.bool false,.slice none 0 0] 122)=wa at *
  generalize hs:w.heap.size=s at *
  have HS:=Ac hs
  clear hs
  have HSG:Hid (decide ((N:Int)<0)=false):=Ac (decide_eq_false (by omega))
  have HD16:Hid (d16 (N:Int)=dig 65536 N):=Ac rfl
  go_loopw [4] (fun mv wr=>∃ m:Nat,mv=.int .u64 m∧Hid (m≤N∧∃ (k:Nat) (ds:List Nat) (Ab:Option Addr) (cb:Nat),wa.grownBy wr (some (s+1))∧Hid (Blk wr (s+1) #[.bool false,.slice Ab k cb])∧Hid (OwnQ wr wa.heap.size 3 1 (.slice Ab k cb) k (i64s ds))∧Hid (dig 65536 N=ds++dig 65536 m))) (fun mv _=>(intOf mv).toNat)
  case atStart=>exact ⟨N,rfl,Ac ⟨Nat.le_refl _,0,[],none,0,Al _ _,HB2,Ac (OwnQ.nil _ _ _ _),Ac rfl⟩⟩
  case round =>
   obtain ⟨m,rfl,hrr⟩:=hrel
   obtain ⟨hmN,k,ds,Ab,cb,hg,hblk,hown,hdig⟩:=hrr.out
   clear hrr
   obtain ⟨d0,d1,f0,f1⟩:=hblk.out.two
   have hlt2:=HB2.out.lt
   have hne:(Value.slice Ab k cb).ownBlock≠some (s+1):=fun e=>by have:=hown.out.from _ e;omega
   have HNE:=Ac hne
   have hkd:ds.length=k:=by have:=hown.out.1.1;simpa [i64s] using this
   have HKD:=Ac hkd
   by_cases hm:0<m
   ·have hk4:k≤4:=by
     have a:=(Bz 65536 (by omega) N 4).2 (by omega)
     rw [hdig.out,List.length_append] at a
     omega
    have r1:(m:Int).tmod 65536=(m:Int) % 65536:=Int.tmod_eq_emod_of_nonneg (by omega)
    have r2:(m:Int).tdiv 65536=(m:Int)/65536:=Int.tdiv_eq_ediv_of_nonneg (by omega)
    have r3:IntKind.i64.wrap ((m:Int) % 65536)=(m:Int) % 65536:=IntWalk.i64_in _ (by omega)
    have r4:IntKind.u64.wrap ((m:Int)/65536)=(m:Int)/65536:=IntWalk.u64_in _ (by omega)
    have r5:IntKind.u64.wrap ((m:Int) % 65536)=(m:Int) % 65536:=IntWalk.u64_in _ (by omega)
    have hs1:=hg.size
    have HM:=Ac hm
    have HG:=Ac hg
    have HMN:=Ac hmN
    clear hne hkd hg hmN
    go_wp2_with (first
     | (at_builtin;refine Cu wa.heap.size rfl (.tmp 15) (.tmp 19) 30 3 (.int .i64 0) 1 8 rfl Tryz.underlying30 Cm rfl (by omega) (by omega) (.slice Ab k cb) k (i64s ds) #[.int .i64 ((m:Int) % 65536)] (by rfl) hown.out (by rfl) (by rfl) (by simp [Value.oneCell']) (by omega) (by omega) (E9 _) E8 ?_;intro g cap w3 hown3 hgrow;obtain ⟨d0,d1,f0,f1⟩:=((hblk.out.more (Af _ _ _)).row hgrow HNE.out).two;have HX:=Ac ((hblk.out.more (Af _ _ _)).row hgrow HNE.out);have H3:=Ac (And.intro hown3 hgrow);clear hown3 hgrow)
     | fail)
    have hm:=HM.out
    have hmn:=HMN.out
    have hgr:=Ae (Kb (Ae HG.out (Af _ _ _)) (hown.out.more (Af _ _ _)) H3.out.2) (Au w3 (s+1) 1 (.slice (some ⟨g,0,none⟩) (k+1) cap))
    have hbl:=Ac (show Blk _ (s+1) #[.bool false,.slice (some ⟨g,0,none⟩) (k+1) cap] from HX.out.set 1 (.slice (some ⟨g,0,none⟩) (k+1) cap))
    have how:Hid (OwnQ (w3.setCell ⟨s+1,1,none⟩ (.slice (some ⟨g,0,none⟩) (k+1) cap)) wa.heap.size 3 1 (.slice (some ⟨g,0,none⟩) (k+1) cap) (k+1) (i64s (ds++[m % 65536]))):=Ac (by
     have h3:=H3.out.1
     have hgs:=h3.from g rfl
     have hlt2:=HB2.out.lt
     have h4:=h3.other (Au w3 (s+1) 1 (.slice (some ⟨g,0,none⟩) (k+1) cap)) (by simp [Value.ownBlock];omega)
     unfold i64s at *
     rw [List.map_append]
     simpa using h4)
    have hdg:Hid (dig 65536 N=(ds++[m % 65536])++dig 65536 (m/65536)):=Ac (by rw [hdig.out,G8 65536 m (by omega) (by omega),List.append_assoc];rfl)
    have hle:m/65536≤N:=by omega
    exact ⟨⟨m/65536,by first | rfl | go_num | omega,by first | exact Ac ⟨hle,k+1,_,_,_,hgr,hbl,how,hdg⟩ | exact Ac ⟨hle,hgr,k+1,_,_,_,hbl,how,hdg⟩⟩,by simp [intOf];omega⟩
   ·obtain rfl:m=0:=by omega
    have hdn:dig 65536 N=ds:=by rw [hdig.out,Dw,List.append_nil]
    have hd:D16 wr (.slice Ab k cb) ds:=hown.out.d16 HKD.out.symm (by rw [←hdn];exact Ev 65536 (by omega) N)
    have HD:=Ac hd
    have HDN:=Ac hdn
    have hlt1:=HB1.out.lt
    obtain ⟨x0,x1,y0,y1⟩:=(HB1.out.other hg (by omega)).two
    have hfar:(Value.slice Ab k cb).ownBlock≠some s:=fun e=>by have:=hown.out.from _ e;omega
    have HFAR:=Ac hfar
    have HG:=Ac (Aw HGW.out hg (by have:=HS.out;omega))
    clear hdn hd hfar hne hkd hg hdig hown
    go_wp2
    try simp only [Exit.inBlock,Exit.then]
    have hg6:wr.grownBy ((wr.setCell ⟨s,0,none⟩ (.bool false)).setCell ⟨s,1,none⟩ (.slice Ab k cb)) (some s):=Ae (Au _ _ _ _) (Au _ _ _ _)
    refine bodyPost_ret (v:=.agg #[.bool false,.slice Ab k cb]) (by simp [results,Tryz.results121,go_sem, *]) rfl ⟨_,rfl,⟨.slice Ab k cb,?_,?_⟩,Aw HG.out hg6 (by have:=HS.out;omega)⟩
    ·rw [HSG.out]
    ·have:=HD.out.apart hg6 HFAR.out
     rw [←HDN.out] at this
     rw [HD16.out];exact this
end
section
theorem A06 {os:List Nat} {p i j a y c V W:Nat} (hp:p=i+j) (hlt:p<os.length) (h:val 65536 os+65536 ^ p*c=V+65536 ^ i*(a*W)) :
  val 65536 (os.set p ((os[p]?.getD 0+a*y+c) % 65536))+65536 ^ (p+1)*((os[p]?.getD 0+a*y+c)/65536)=V+65536 ^ i*(a*(W+65536 ^ j*y)):=by
 have e:=N3 65536 os p ((os[p]?.getD 0+a*y+c) % 65536) hlt
 have d:=Nat.mod_add_div (os[p]?.getD 0+a*y+c) 65536
 have hpp:65536 ^ p=65536 ^ i*65536 ^ j:=by rw [hp,Nat.pow_add]
 generalize (os[p]?.getD 0+a*y+c) % 65536=r at *
 generalize (os[p]?.getD 0+a*y+c)/65536=q at *
 generalize os[p]?.getD 0=u at *
 rw [Nat.pow_succ]
 generalize val 65536 (os.set p r)=s at *
 generalize val 65536 os=t at *
 have d2:65536 ^ p*r+65536 ^ p*65536*q=65536 ^ p*(a*y)+65536 ^ p*u+65536 ^ p*c:=by
  have:65536 ^ p*(r+65536*q)=65536 ^ p*(u+a*y+c):=by rw [d]
  grind
 have d3:65536 ^ p*(a*y)=65536 ^ i*(a*(65536 ^ j*y)):=by rw [hpp];grind
 have d4:65536 ^ i*(a*(W+65536 ^ j*y))=65536 ^ i*(a*W)+65536 ^ i*(a*(65536 ^ j*y)):=by grind
 rw [d4,←d3]
 omega
theorem Xs {a y u c:Nat} (ha:a<65536) (hy:y<65536) (hu:u<65536) (hc:c<65536):u+a*y+c≤4294967295:=by
 have:a*y≤65535*65535:=Nat.mul_le_mul (by omega) (by omega)
 omega
def TimIn (os xs ys:List Nat) (k j cy:Nat):Prop :=
 os.length=xs.length+ys.length∧(∀ d∈os,d<65536)∧(∀ p,k+ys.length≤p→os[p]?.getD 0=0)∧val 65536 os+65536 ^ (k+j)*cy=val 65536 (xs.take k)*val 65536 ys+65536 ^ k*(xs[k]?.getD 0*val 65536 (ys.take j))
def TimOut (os xs ys:List Nat) (k:Nat):Prop :=
 os.length=xs.length+ys.length∧(∀ d∈os,d<65536)∧(∀ p,k+ys.length≤p→os[p]?.getD 0=0)∧val 65536 os=val 65536 (xs.take k)*val 65536 ys
theorem TimOut.start (xs ys:List Nat):TimOut (List.replicate (xs.length+ys.length) 0) xs ys 0 :=
 ⟨by simp,by simp,fun p _=>by simp [List.getElem?_replicate];split<;>rfl,by simp [val,I5]⟩
theorem TimOut.enter {os xs ys:List Nat} {k:Nat} (h:TimOut os xs ys k):TimIn os xs ys k 0 0:=⟨h.1,h.2.1,h.2.2.1,by simp [val];exact h.2.2.2⟩
theorem TimIn.step {os xs ys:List Nat} {k j cy:Nat} (h:TimIn os xs ys k j cy) (hk:k<xs.length) (hj:j<ys.length) :
  TimIn (os.set (k+j) ((os[k+j]?.getD 0+xs[k]?.getD 0*ys[j]?.getD 0+cy) % 65536)) xs ys k (j+1) ((os[k+j]?.getD 0+xs[k]?.getD 0*ys[j]?.getD 0+cy)/65536):=by
 obtain ⟨h1,h2,h3,h4⟩:=h
 refine ⟨by simpa using h1,Ey h2 _ _ (Nat.mod_lt _ (by omega)),fun p hp=>by rw [List.getElem?_set_ne (by omega)];exact h3 p hp,?_⟩
 have:=A06 (j:=j) (y:=ys[j]?.getD 0) rfl (by omega) h4
 rw [B7,List.getD_eq_getElem?_getD]
 exact this
theorem TimIn.leave {os xs ys:List Nat} {k cy:Nat} (h:TimIn os xs ys k ys.length cy) (hk:k<xs.length) (hc:cy<65536):TimOut (os.set (k+ys.length) cy) xs ys (k+1):=by
 obtain ⟨h1,h2,h3,h4⟩:=h
 refine ⟨by simpa using h1,Ey h2 _ _ hc,fun p hp=>by rw [List.getElem?_set_ne (by omega)];exact h3 p (by omega),?_⟩
 have:=N3 65536 os (k+ys.length) cy (by omega)
 rw [h3 _ (Nat.le_refl _)] at this
 rw [List.take_length] at h4
 rw [B7,List.getD_eq_getElem?_getD]
 have e:(val 65536 (xs.take k)+65536 ^ k*xs[k]?.getD 0)*val 65536 ys=val 65536 (xs.take k)*val 65536 ys+65536 ^ k*(xs[k]?.getD 0*val 65536 ys):=by grind
 omega
theorem TimOut.end {os xs ys:List Nat} (h:TimOut os xs ys xs.length):val 65536 os=val 65536 xs*val 65536 ys:=by
 have:=h.2.2.2;rwa [List.take_length] at this
/-! ### two digits of 16 bits as one of 32 -/
end
section
open Go.RowKit Go.Maps
open Rat
theorem D16.keep {w w':World} {v:Value} {ds:List Nat} {zb:Nat} {cs:Array Value} (h:D16 w v ds) (hz:Blk w zb cs) (hn:∀ u∈cs.toList,∀ n,u≠.int .i64 n) (hg:w.grownBy w' (some zb)):D16 w' v ds:=by
 refine ⟨?_,h.2⟩
 rcases h.1 with h1 | ⟨b,o,c,rfl,h1,h2,h3⟩
 ·exact .inl h1
 ·refine .inr ⟨b,o,c,rfl,h1,h2,fun i hi=>Aj hg (h3 i hi) ?_⟩
  intro e
  injection e with e
  subst e
  have h4:=h3 i hi
  rw [hz.cell] at h4
  obtain ⟨ho,hv⟩:=Array.getElem?_eq_some_iff.1 h4
  exact hn _ (by rw [←hv];simp) _ rfl
theorem NZ.keep {w w':World} {v:Value} {z:Int} {zb:Nat} {b:Bool} {A:Option Addr} {n c:Nat} (h:NZ w v z) (hz:Blk w zb #[.bool b,.slice A n c]) (hg:w.grownBy w' (some zb)):NZ w' v z:=by
 obtain ⟨u,rfl,h⟩:=h
 exact ⟨u,rfl,h.keep hz (by intro u hu n;simp at hu;rcases hu with rfl | rfl<;>simp) hg⟩
theorem Xd {w w':World} {base:Nat} {e:TypeId} {size n:Nat} {v:Value} {xs:List Value} (h:w.ownsRow base e size v n xs) (hg:w.grownBy w' none):w'.ownsRow base e size v n xs:=h.kept hg (by cases v.ownBlock<;>simp)
end
end Go.Proofs.YtmfmfpmkgmkgiaaGreatDoor
