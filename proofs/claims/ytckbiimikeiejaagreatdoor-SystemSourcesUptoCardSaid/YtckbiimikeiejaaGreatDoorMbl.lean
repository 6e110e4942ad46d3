/- StepM Bran GriD GriE. -/
import Derived.Test.YtckbiimikeiejaaGreatDoorMal
import Derived.Test.YtckbiimikeiejaaGreatDoorMas
import Derived.Test.YtckbiimikeiejaaGreatDoorMbj
import Derived.Test.YtckbiimikeiejaaGreatDoorMbh
import Derived.Test.YtckbiimikeiejaaGreatDoorMbk
import Derived.Test.YtckbiimikeiejaaGreatDoorMbi
import Derived.Test.YtckbiimikeiejaaGreatDoorMau
import Derived.BigQuiet
set_option linter.unusedVariables false
set_option linter.unusedSimpArgs false
set_option maxHeartbeats 40000000
namespace Go.Proofs.YtckbiimikeiejaaGreatDoor
section
open Go.RowKit Go.Maps
section
variable {P:Program} {w:World} {ops:Array Oper} {o:Oper} {a:Act} {K:Act→World→Prop} {Q:Exit→Act→World→Prop} {E:Prop}
theorem A2h (hgd:o.guard=none) (d:Nat) (hd:o.dst=some d) (cs:Array Value) (T:TypeId)
  (hrun:∀ ev W,(execOp ev o).run P W=.ok (.value (.pointer (some ⟨W.heap.size,0,none⟩))) (W.alloc (.cells cs T)))
  (h:∀ b w',Blk w' b cs→w.heap.size≤b→w.grownBy w' none→K (a.put (some d) (.pointer (some ⟨b,0,none⟩))) w') :
  if Region.wanted o (yielded ops a.tmps)=true then Oper.wp P o a w K Q else E:=by
 have hw:Region.wanted o (yielded ops a.tmps)=true:=by simp [Region.wanted,hgd]
 rw [if_pos hw]
 unfold Oper.wp
 rw [hrun]
 simp only [Oper.upon,hd]
 exact h _ _ (Blk.new _ _ _) (Nat.le_refl _) (Af _ _ _)
theorem A2a (hgd:o.guard=none) (hd:o.dst=none) (T:TypeId) (p x:Operand) (ho:o.op=.store T p x) (b:Nat) (hp:a.eval p=.pointer (some ⟨b,0,none⟩)) (v0 v1 v2 v3:Value) (hx:a.eval x=.agg #[v0,v1,v2,v3])
  {u0 u1 u2 u3:Value} (hb:Blk w b #[u0,u1,u2,u3])
  (hrun:∀ (ev:Operand→Value) W,ev p=.pointer (some ⟨b,0,none⟩)→ev x=.agg #[v0,v1,v2,v3]→W.cell? ⟨b,0,none⟩=some u0→W.cell? ⟨b,1,none⟩=some u1→W.cell? ⟨b,2,none⟩=some u2→W.cell? ⟨b,3,none⟩=some u3→W.frozen? ⟨b,0,none⟩=false→W.frozen? ⟨b,1,none⟩=false→W.frozen? ⟨b,2,none⟩=false→W.frozen? ⟨b,3,none⟩=false→
   (execOp ev o).run P W=.ok .skip ((((W.setCell ⟨b,0,none⟩ v0).setCell ⟨b,1,none⟩ v1).setCell ⟨b,2,none⟩ v2).setCell ⟨b,3,none⟩ v3))
  (h:∀ w',Blk w' b #[v0,v1,v2,v3]→w.grownBy w' (some b)→K a w') :
  if Region.wanted o (yielded ops a.tmps)=true then Oper.wp P o a w K Q else E:=by
 have hw:Region.wanted o (yielded ops a.tmps)=true:=by simp [Region.wanted,hgd]
 rw [if_pos hw]
 obtain ⟨z0,z1,z2,z3,f0,f1,f2,f3⟩:=hb.four
 unfold Oper.wp
 rw [hrun a.eval w hp hx z0 z1 z2 z3 f0 f1 f2 f3]
 simp only [Oper.upon,hd]
 exact h _ ((((hb.set 0 v0).set 1 v1).set 2 v2).set 3 v3) (Jl _ _ _ _ _ _)
end
theorem A3p (b:Nat) (x0 x2:Bool) (A A':Option Addr) (n n' c c':Nat) (u0 u1 u2 u3:Value) (p x:Operand) (o:Oper) (ho:o.op=.store 143 p x):∀ (ev:Operand→Value) W,ev p=.pointer (some ⟨b,0,none⟩)→ev x=.agg #[.bool x0,.slice A n c,.bool x2,.slice A' n' c']→W.cell? ⟨b,0,none⟩=some u0→W.cell? ⟨b,1,none⟩=some u1→W.cell? ⟨b,2,none⟩=some u2→W.cell? ⟨b,3,none⟩=some u3→W.frozen? ⟨b,0,none⟩=false→W.frozen? ⟨b,1,none⟩=false→W.frozen? ⟨b,2,none⟩=false→W.frozen? ⟨b,3,none⟩=false→
   (execOp ev o).run Tryz.prog W=.ok .skip ((((W.setCell ⟨b,0,none⟩ (.bool x0)).setCell ⟨b,1,none⟩ (.slice A n c)).setCell ⟨b,2,none⟩ (.bool x2)).setCell ⟨b,3,none⟩ (.slice A' n' c')):=by
 intro ev W hp hx z0 z1 z2 z3 f0 f1 f2 f3
 simp only [execOp,ho,hp,hx]
 go_simp
end
section
open Go Go.RowKit
section
variable {P:Program} {md:Region.Mode} {ops:Array Oper} {Q:Exit→Act→World→Prop} {S:World→Prop} {z:Nat}
theorem A2m {i:Nat} {oi:Oper} {v:Value} (hi:ops[i]? = some oi) (hsel:∀ (j:Nat) (o:Oper) cs b,ops[j]? = some o→o.op≠.select cs b) (hQ:∀ c a w,Q (.panic c) (a.put oi.dst v) w→Q (.panic c) a w) (hz:ops.size≤z) :
  ∀ (n:Nat) (l:Array Bool) (a:Act) (w:World),(∀ j oj,ops[j]? = some oj→j≠i→l.getD j true=false→(∀ e∈oj.after,Region.binds md e=true→e.on≠i)→oi.apart ops oj=true)→
   i∈Region.ready md ops l→YieldsIf P ops S oi v a→S w→wpT P md ops Q S z n (l.setIfInBounds i true) (a.put oi.dst v) w→wpT P md ops Q S z (n+1) l a w
 | 0,l,a,w,_,hr,hy,hS,H=>by
  refine ⟨fun h0=>absurd hr (by rw [h0];simp),fun j hj=>?_⟩
  rcases Nat.decEq j i with hne | he
  ·have:=ready_mono hj hne
   rw [H.1] at this
   simp at this
  ·subst he;exact hy.wpOp hi hS ⟨fun _=>hS,H⟩
 | n+1,l,a,w,hap,hr,hy,hS,H=>by
  refine ⟨fun h0=>absurd hr (by rw [h0];simp),fun j hj=>?_⟩
  rcases Nat.decEq j i with hne | he
  ·obtain ⟨hjl,oj,hoj,hall⟩:=mem_ready.1 hj
   have hil:=(mem_ready.1 hr).1
   have hno:∀ e∈oj.after,Region.binds md e=true→e.on≠i:=by
    intro e he hb hon
    have h1:=hall e he hb
    rw [hon,O4 hil] at h1
    cases h1
   have hnext:=ready_mono (i:=j) hr (fun e=>hne e.symm)
   refine wpOp_mono (fun a' w' k=>?_) (wpOp_putIf hoj (hap j oj hoj hne hjl hno) (fun cs b=>hsel i oi cs b hi) (fun cs b=>hsel j oj cs b hoj) hQ hy (H.2 j (ready_mono hj hne)))
   obtain ⟨hy',hS',H'⟩:=k
   have hjz:j≠z:=by
    have:=(Array.getElem?_eq_some_iff.1 hoj).1
    omega
   have hS2:=hS' hjz
   exact ⟨fun _=>hS2,A2m hi hsel hQ hz n (l.setIfInBounds j true) a' w' (fun k ok hk hki hkl hkn=>hap k ok hk hki (by
    by_cases hjk:j=k
    ·subst hjk;exact hjl
    ·rwa [getD_set_ne true hjk] at hkl) hkn) hnext hy' hS2 (by rw [Array.setIfInBounds_comm _ _ hne];exact H')⟩
  ·subst he;exact hy.wpOp hi hS ⟨fun _=>hS,H⟩
theorem A38 (i:Nat) {oi:Oper} {more:List Oper} {v:Value} {n:Nat} {l:Array Bool} {a:Act} {w:World} (hi':ops.toList.drop i=oi::more) (hs:Region.noSelect ops=true) (hf:Region.free md ops l i=true) (hr:(Region.ready md ops l).contains i=true)
  (hQ:∀ c a w,Q (.panic c) (a.put oi.dst v) w→Q (.panic c) a w) (hw:Region.wanted oi (yielded ops a.tmps)=true) (hy:∀ w,S w→(execOp a.eval oi).run P w=.ok (.value v) w) (hS:S w)
  (h:wpT P md ops Q S ops.size n (l.setIfInBounds i true) (a.put oi.dst v) w):wpT P md ops Q S ops.size (n+1) l a w :=
 have hi:=Sp hi'
 A2m hi (Region.noSelect_spec hs) hQ (Nat.le_refl _) n l a w (Region.free_spec hi hf) (by simpa using hr) (.inl ⟨hw,hy⟩) hS h
def allB (p:Nat→Prop):Nat→Prop
 | 0=>True
 | n+1=>allB p n∧p n
theorem A3d {p:Nat→Prop}:∀ {n i:Nat},allB p n→i<n→p i
 | n+1,i,h,hi=>by
  rcases Nat.lt_succ_iff_lt_or_eq.1 hi with h1 | h1
  ·exact A3d h.1 h1
  ·subst h1;exact h.2
theorem A47 {N:Nat} {n:Nat} {l:Array Bool} {a:Act} {w:World} (hN:N=ops.size) (he:(Region.ready md ops l).isEmpty=false)
  (h:allB (fun i=>(Region.ready md ops l).contains i=true→∀ K:Act→World→Prop,Hid (∀ a' w',S w'→wpT P md ops Q S N n (l.setIfInBounds i true) a' w'→K a' w')→wpOp P ops Q i K a w) N):wpT P md ops Q S N (n+1) l a w:=by
 refine ⟨fun h0=>by rw [h0] at he;simp at he,fun i hi=>?_⟩
 obtain ⟨_,oi,hoi,_⟩:=mem_ready.1 hi
 have hlt:i<N:=by rw [hN];exact (Array.getElem?_eq_some_iff.1 hoi).1
 exact A3d h hlt (by simpa using hi) _ (Ac fun a' w' hs ht=>⟨fun _=>hs,ht⟩)
theorem A3y {l:Array Bool} {a:Act} {w:World} {n:Nat} (hr:(Region.ready md ops l).isEmpty=true) (h:Q .normal a w):wpT P md ops Q S z n l a w:=A3z (by simpa using hr) h
theorem A48 {i:Nat} {oi:Oper} {more:List Oper} {K:Act→World→Prop} {a:Act} {w:World} (hi':ops.toList.drop i=oi::more)
  (h:∀ K':Act→World→Prop,Hid (∀ a w,K a w→K' a w)→if Region.wanted oi (yielded ops a.tmps)=true then Oper.wp P oi a w K' Q else K' (a.put oi.dst undef) w):wpOp P ops Q i K a w :=
 wpOp_step (Sp hi') fun K' hK=>h K' (Ac hK)
end
end
section
open Go.RowKit Go.Maps
open Rat
def FB (w:World) (b:Nat) (q:Rat):Prop:=∃ s A n c A' n' c',Blk w b #[.bool s,.slice A n c,.bool false,.slice A' n' c']∧FQ w (.agg #[.bool s,.slice A n c,.bool false,.slice A' n' c']) q
theorem FB.mk {w:World} {b:Nat} {q:Rat} {s:Bool} {A A':Option Addr} {n n' c c':Nat} (h:Blk w b #[.bool s,.slice A n c,.bool false,.slice A' n' c']) (k:FQ w (.agg #[.bool s,.slice A n c,.bool false,.slice A' n' c']) q):FB w b q:=⟨_,_,_,_,_,_,_,h,k⟩
theorem FB.more {w w':World} {b:Nat} {q:Rat} (h:FB w b q) (hg:w.grownBy w' none):FB w' b q:=by
 obtain ⟨s,A,n,c,A',n',c',h,k⟩:=h;exact .mk (h.more hg) (k.more hg)
theorem FB.other {w w':World} {b r:Nat} {q:Rat} {cs:Array Value} (h:FB w b q) (hz:Blk w r cs) (hn:∀ u∈cs.toList,∀ n,u≠.int .i64 n) (hg:w.grownBy w' (some r)) (hne:b≠r):FB w' b q:=by
 obtain ⟨s,A,n,c,A',n',c',h,k⟩:=h;exact .mk (h.other hg hne) (k.keep hz hn hg)
theorem A35 {z:Int} (h:z.natAbs≤2000000000):L16 (z:Rat) 8:=⟨by show (d16 z).length≤8;unfold d16;exact (Bz 65536 (by omega) _ _).2 (by omega),by show (d16 1).length≤8;decide +kernel⟩
theorem A3q:L16 ((1:Int):Rat) 8:=A35 (by decide)
theorem A3w {T:Rat} (h:L16 T 8):L16 (((1:Int):Rat)-T) 17:=by
 rw [Rat.sub_eq_add_neg];exact L16.add A3q h.neg
set_option maxRecDepth 100000 in
theorem V2 (w:World) (m1 e1 m2 e2 k n:Int) (h1:NumOK m1 e1) (h2:NumOK m2 e2) (hk:k.natAbs≤2000000000) (hn:n.natAbs≤2000000000) (h0:n≠0) :
    Calls Tryz.prog 242 #[.agg #[.int .i64 m1,.int .i64 e1],.agg #[.int .i64 m2,.int .i64 e2],.int .i64 k,.int .i64 n] w fun o w'=>∃ v,o=.returned v∧FQ w' v (btwQ (numQ m1 e1) (numQ m2 e2) k n)∧w.grownBy w' none:=by
  have HV1:Hid (∀ W,Calls Tryz.prog 120 #[.agg #[.int .i64 m1,.int .i64 e1]] W fun e w'=>∃ v,e=.returned v∧(FQ w' v (numQ m1 e1)∧W.grownBy w' none)):=Ac (fun W=>N7 W m1 e1 h1)
  have HV2:Hid (∀ W,Calls Tryz.prog 120 #[.agg #[.int .i64 m2,.int .i64 e2]] W fun e w'=>∃ v,e=.returned v∧(FQ w' v (numQ m2 e2)∧W.grownBy w' none)):=Ac (fun W=>N7 W m2 e2 h2)
  have hB1:=(Blk.new w #[.int .i64 m1,.int .i64 e1] 25).more (Ae (Af _ (.cells #[.int .i64 m2,.int .i64 e2] 25) none) (Af _ (.cells #[.bool false,.slice none 0 0,.bool false,.slice none 0 0] 143) none))
  have hB2:=(Blk.new (w.alloc (.cells #[.int .i64 m1,.int .i64 e1] 25)) #[.int .i64 m2,.int .i64 e2] 25).more (Af _ (.cells #[.bool false,.slice none 0 0,.bool false,.slice none 0 0] 143) none)
  have hB3:=Blk.new ((w.alloc (.cells #[.int .i64 m1,.int .i64 e1] 25)).alloc (.cells #[.int .i64 m2,.int .i64 e2] 25)) #[.bool false,.slice none 0 0,.bool false,.slice none 0 0] 143
  rw [World.size_alloc] at hB2 hB3
  rw [World.size_alloc] at hB3
  have HGW:=Ac (Ae (Af w (.cells #[.int .i64 m1,.int .i64 e1] 25) none) (Ae (Af _ (.cells #[.int .i64 m2,.int .i64 e2] 25) none) (Af _ (.cells #[.bool false,.slice none 0 0,.bool false,.slice none 0 0] 143) none)))
  have HZ:=Ac hB3
  obtain ⟨x0,x1,_⟩:=hB1.two
  obtain ⟨y0,y1,_⟩:=hB2.two
  have HK:Hid (k.natAbs≤2000000000∧n.natAbs≤2000000000∧n≠0):=Ac ⟨hk,hn,h0⟩
  have HX:Hid (L16 (numQ m1 e1) 8∧L16 (numQ m2 e2) 8):=Ac ⟨L16.num h1,L16.num h2⟩
  clear hB1 hB2 hB3 h1 h2 hk hn h0
  obtain ⟨R,hR⟩:∃ R,btwQ (numQ m1 e1) (numQ m2 e2) k n=R:=⟨_,rfl⟩
  rw [hR]
  have HBT:=Ac hR
  clear hR
  generalize numQ m1 e1=X at *
  generalize numQ m2 e2=Y at *
  go_enter Tryz.func242,Tryz.ntmps242
  go_wp2_with fail
  generalize ((w.alloc (.cells #[.int .i64 m1,.int .i64 e1] 25)).alloc (.cells #[.int .i64 m2,.int .i64 e2] 25)).alloc (.cells #[.bool false,.slice none 0 0,.bool false,.slice none 0 0] 143)=wa at *
  generalize hs:w.heap.size=s at *
  have HS:=Ac hs
  clear hs
  have HKK:=Ac (fun W (h:wa.grownBy W none)=>(⟨Aj h x0 (by simp),Aj h x1 (by simp),Aj h y0 (by simp),Aj h y1 (by simp)⟩:W.cell? ⟨s,0,none⟩=some (.int .i64 m1)∧W.cell? ⟨s,1,none⟩=some (.int .i64 e1)∧W.cell? ⟨s+1,0,none⟩=some (.int .i64 m2)∧W.cell? ⟨s+1,1,none⟩=some (.int .i64 e2)))
  have EO:=Ac (show ∀ args w,(callFunc 120 args).run Tryz.prog w=.ok (.enter 120 args) w from enters_of Tryz.func120 (by kernel_rfl) rfl)
  go_upto_region 1 with (fail)
  go_cut [9,10] (fun a b wx=>∃ b9 b10,a=.pointer (some ⟨b9,0,none⟩)∧b=.pointer (some ⟨b10,0,none⟩)∧wa.grownBy wx none∧Hid ((FB wx b9 X∧FB wx b10 Y)∧b9≠s+1+1∧b10≠s+1+1))
  case first =>
    have hG:=Ai wa none
    have hS0:=HKK.out _ hG
    refine A3t (S:=fun W=>W.cell? ⟨s,0,none⟩=some (.int .i64 m1)∧W.cell? ⟨s,1,none⟩=some (.int .i64 e1)∧W.cell? ⟨s+1,0,none⟩=some (.int .i64 m2)∧W.cell? ⟨s+1,1,none⟩=some (.int .i64 e2)) (z:=8) (by kernel_rfl) ?_
    generalize wa.drew=w0 at *
    refine A38 0 (v:=?_) rfl (by kernel_rfl) (by kernel_rfl) (by kernel_rfl) (fun _ _ _ h=>h) (by rfl) ?_ (by assumption) ?_
    rotate_left
    · intro W hSw;(try dsimp only at hSw);obtain ⟨h1,h2,h3,h4⟩:=hSw;go_simp;(try with_reducible rfl)
    try simp only [Act.put,List.setIfInBounds_toArray,List.set_cons_zero,List.set_cons_succ]
    refine A38 2 (v:=?_) rfl (by kernel_rfl) (by kernel_rfl) (by kernel_rfl) (fun _ _ _ h=>h) (by rfl) ?_ (by assumption) ?_
    rotate_left
    · intro W hSw;(try dsimp only at hSw);obtain ⟨h1,h2,h3,h4⟩:=hSw;go_simp;(try with_reducible rfl)
    try simp only [Act.put,List.setIfInBounds_toArray,List.set_cons_zero,List.set_cons_succ]
    repeat' (first
      | (refine A3y (by decide +kernel) ?_;try simp only [Exit.inBlock,Exit.then];go_wp2_with fail;go_meet;exact ⟨_,_,rfl,rfl,hG,Ac ⟨⟨hF9,hF10⟩,by have:=HZ.out.lt;omega,by have:=HZ.out.lt;omega⟩⟩)
      | (refine A47 (N:=8) (by rfl) (by decide +kernel) ⟨⟨⟨⟨⟨⟨⟨⟨trivial,?_⟩,?_⟩,?_⟩,?_⟩,?_⟩,?_⟩,?_⟩,?_⟩
         all_goals first
          | (intro hr;exact absurd (hr.symm.trans (by decide +kernel:_=false)) (by decide))
          | (intro _ K hK;refine A48 rfl (fun K2 hK2=>?_);first
            | (refine A2h (by rfl) 9 (by rfl) #[.bool false,.slice none 0 0,.bool false,.slice none 0 0] 143 (fun _ _=>by kernel_rfl) ?_;intro b9 w9 hb9 hs9 hg9;(try have hne:b9≠b10:=by have:=hb10.lt;omega);have hl9:=Nat.le_trans hG.size hs9;(try replace hv13:=hv13.more hg9);(try replace hv15:=hv15.more hg9);(try replace hb9:=hb9.more hg9);(try replace hb10:=hb10.more hg9);(try replace hF9:=hF9.more hg9);(try replace hF10:=hF10.more hg9);replace hG:=Ae hG hg9;refine hK2.out _ _ (hK.out _ _ (HKK.out _ hG) ?_);(try simp only [Act.put,List.setIfInBounds_toArray,List.set_cons_zero,List.set_cons_succ]);clear hK hK2)
            | (refine A2h (by rfl) 10 (by rfl) #[.bool false,.slice none 0 0,.bool false,.slice none 0 0] 143 (fun _ _=>by kernel_rfl) ?_;intro b10 w10 hb10 hs10 hg10;(try have hne:b9≠b10:=by have:=hb9.lt;omega);have hl10:=Nat.le_trans hG.size hs10;(try replace hv13:=hv13.more hg10);(try replace hv15:=hv15.more hg10);(try replace hb9:=hb9.more hg10);(try replace hb10:=hb10.more hg10);(try replace hF9:=hF9.more hg10);(try replace hF10:=hF10.more hg10);replace hG:=Ae hG hg10;refine hK2.out _ _ (hK.out _ _ (HKK.out _ hG) ?_);(try simp only [Act.put,List.setIfInBounds_toArray,List.set_cons_zero,List.set_cons_succ]);clear hK hK2)
            | (refine Fo (by rfl) 120 (.tmp 12) _ (by rfl) (.agg #[.int .i64 m1,.int .i64 e1]) (by rfl) EO.out _ (HV1.out _) ?_;rintro v13 w13 ⟨hv13,hg13⟩;obtain ⟨A13,c13,B13,d13,rfl,_⟩:=id hv13;(try replace hv13:=hv13.more hg13);(try replace hv15:=hv15.more hg13);(try replace hb9:=hb9.more hg13);(try replace hb10:=hb10.more hg13);(try replace hF9:=hF9.more hg13);(try replace hF10:=hF10.more hg13);replace hG:=Ae hG hg13;refine hK2.out _ _ (hK.out _ _ (HKK.out _ hG) ?_);(try simp only [Act.put,List.setIfInBounds_toArray,List.set_cons_zero,List.set_cons_succ]);clear hK hK2)
            | (refine Fo (by rfl) 120 (.tmp 14) _ (by rfl) (.agg #[.int .i64 m2,.int .i64 e2]) (by rfl) EO.out _ (HV2.out _) ?_;rintro v15 w15 ⟨hv15,hg15⟩;obtain ⟨A15,c15,B15,d15,rfl,_⟩:=id hv15;(try replace hv13:=hv13.more hg15);(try replace hv15:=hv15.more hg15);(try replace hb9:=hb9.more hg15);(try replace hb10:=hb10.more hg15);(try replace hF9:=hF9.more hg15);(try replace hF10:=hF10.more hg15);replace hG:=Ae hG hg15;refine hK2.out _ _ (hK.out _ _ (HKK.out _ hG) ?_);(try simp only [Act.put,List.setIfInBounds_toArray,List.set_cons_zero,List.set_cons_succ]);clear hK hK2)
            | (refine A2a (by rfl) (by rfl) 143 (.tmp 9) (.tmp 13) (by rfl) b9 (by rfl) _ _ _ _ (by rfl) hb9 (A3p b9 _ _ _ _ _ _ _ _ _ _ _ _ (.tmp 9) (.tmp 13) _ (by rfl)) ?_;intro w29 hbn hgs;have hF9:=FB.mk hbn (hv13.keep hb9 (by simp) hgs);(try replace hv15:=hv15.keep hb9 (by simp) hgs);(try replace hF10:=hF10.other hb9 (by simp) hgs (by omega));(try replace hb10:=hb10.other hgs (by omega));replace hG:=Aw hG hgs hl9;refine hK2.out _ _ (hK.out _ _ (HKK.out _ hG) ?_);(try simp only [Act.put,List.setIfInBounds_toArray,List.set_cons_zero,List.set_cons_succ]);clear hK hK2)
            | (refine A2a (by rfl) (by rfl) 143 (.tmp 10) (.tmp 15) (by rfl) b10 (by rfl) _ _ _ _ (by rfl) hb10 (A3p b10 _ _ _ _ _ _ _ _ _ _ _ _ (.tmp 10) (.tmp 15) _ (by rfl)) ?_;intro w210 hbn hgs;have hF10:=FB.mk hbn (hv15.keep hb10 (by simp) hgs);(try replace hv13:=hv13.keep hb10 (by simp) hgs);(try replace hF9:=hF9.other hb10 (by simp) hgs (by omega));(try replace hb9:=hb9.other hgs (by omega));replace hG:=Aw hG hgs hl10;refine hK2.out _ _ (hK.out _ _ (HKK.out _ hG) ?_);(try simp only [Act.put,List.setIfInBounds_toArray,List.set_cons_zero,List.set_cons_succ]);clear hK hK2))))
  case rest =>
    obtain ⟨b9,b10,rfl,rfl,hg,hh⟩:=hcut
    obtain ⟨wk,rfl⟩:∃ wk:World,wk=wc:=⟨_,rfl⟩
    have HG1:=Ac hg
    have HF:=hh
    clear hg hh x0 x1 y0 y1 HV1 HV2 EO
    obtain ⟨k1,k2,k3⟩:=HK.out
    go_wp2_with fail
    refine (X4 wk k (by omega) (by omega)).mono ?_
    rintro e w1 ⟨v1,rfl,hv1,hg1⟩
    have HV1:=Ac hv1
    have HG2:=Ac hg1
    clear hv1 hg1
    go_wp2_with fail
    refine (X4 w1 n (by omega) (by omega)).mono ?_
    rintro e w2 ⟨v2,rfl,hv2,hg2⟩
    have HV1:=Ac (HV1.out.more hg2)
    have HV2:=Ac hv2
    have HG2:=Ac (Ae HG2.out hg2)
    clear hv2 hg2
    go_wp2_with fail
    refine (A33 w2 v1 v2 (k:Rat) (n:Rat) HV1.out HV2.out (fun h=>k3 (Rat.intCast_eq_zero_iff.1 h)) 8 (A35 k1) (A35 k2) (by omega)).mono ?_
    rintro e w3 ⟨v3,rfl,hv3,hg3⟩
    rw [←Rat.divInt_eq_div] at hv3
    have HL3:Hid (L16 (k /. n) 8):=Ac (L16.divInt k3 (A35 k1).1 (A35 k2).1)
    have HR:Hid (X*(((1:Int):Rat)-k /. n)+Y*(k /. n)=R):=Ac (by rw [←HBT.out];unfold btwQ;rw [show ((1:Int):Rat)=1 from rfl];generalize k /. n=T;grind)
    have HW3:=Ac (Ae HG2.out hg3)
    obtain ⟨A3,c3,B3,d3,rfl,_⟩:=id hv3
    have HV3:=Ac hv3
    clear hv3 hg3 k1 k2 k3 HV1 HV2 HG2
    clear HBT
    generalize k /. n=T at *
    generalize decide (T.num<0)=s3 at *
    generalize (d16 T.num).length=n3 at *
    generalize (d16 (T.den:Int)).length=m3 at *
    go_upto_region 3 with (fail)
    have HV3:=Ac (HV3.out.more (Af w3 (.cells #[.bool s3,.slice A3 n3 c3,.bool false,.slice B3 m3 d3] 143) none))
    have HB3:=Ac (Blk.new w3 #[.bool s3,.slice A3 n3 c3,.bool false,.slice B3 m3 d3] 143)
    have HG4:=Ac (Ae HW3.out (Af w3 (.cells #[.bool s3,.slice A3 n3 c3,.bool false,.slice B3 m3 d3] 143) none))
    generalize w3.alloc (.cells #[.bool s3,.slice A3 n3 c3,.bool false,.slice B3 m3 d3] 143)=w5 at *
    generalize ht:w3.heap.size=t3 at *
    have HT3:Hid (s+1+1<t3):=Ac (by have a:=HZ.out.lt;have b:=HG1.out.size;have c:=HW3.out.size;omega)
    clear ht
    obtain ⟨s9,A9,n9,c9,B9,m9,d9,bk9,fq9⟩:=HF.out.1.1.more HG4.out
    obtain ⟨s8,A8,n8,c8,B8,m8,d8,bk8,fq8⟩:=HF.out.1.2.more HG4.out
    have HX9:=Ac fq9
    have HX8:=Ac fq8
    obtain ⟨x0,x1,x2,x3,_⟩:=bk9.four
    obtain ⟨y0,y1,y2,y3,_⟩:=bk8.four
    obtain ⟨t0,t1,t2,t3',_⟩:=HB3.out.four
    have ne0:b9≠s+1+1:=HF.out.2.1
    have ne1:b10≠s+1+1:=HF.out.2.2
    have ne2:t3≠s+1+1:=by have:=HT3.out;omega
    have ne3:=Ne.symm ne0
    have ne4:=Ne.symm ne1
    have ne5:=Ne.symm ne2
    have HKK:=Ac (fun W (h:w5.grownBy W none)=>(⟨Aj h x0 (by simp),Aj h x1 (by simp),Aj h x2 (by simp),Aj h x3 (by simp),Aj h y0 (by simp),Aj h y1 (by simp),Aj h y2 (by simp),Aj h y3 (by simp),Aj h t0 (by simp),Aj h t1 (by simp),Aj h t2 (by simp),Aj h t3' (by simp)⟩:W.cell? ⟨b9,0,none⟩=some (.bool s9)∧W.cell? ⟨b9,1,none⟩=some (.slice A9 n9 c9)∧W.cell? ⟨b9,2,none⟩=some (.bool false)∧W.cell? ⟨b9,3,none⟩=some (.slice B9 m9 d9)∧W.cell? ⟨b10,0,none⟩=some (.bool s8)∧W.cell? ⟨b10,1,none⟩=some (.slice A8 n8 c8)∧W.cell? ⟨b10,2,none⟩=some (.bool false)∧W.cell? ⟨b10,3,none⟩=some (.slice B8 m8 d8)∧W.cell? ⟨t3,0,none⟩=some (.bool s3)∧W.cell? ⟨t3,1,none⟩=some (.slice A3 n3 c3)∧W.cell? ⟨t3,2,none⟩=some (.bool false)∧W.cell? ⟨t3,3,none⟩=some (.slice B3 m3 d3)))
    clear bk9 bk8 fq9 fq8 HF
    go_region_held3 (fun W=>W.cell? ⟨b9,0,none⟩=some (.bool s9)∧W.cell? ⟨b9,1,none⟩=some (.slice A9 n9 c9)∧W.cell? ⟨b9,2,none⟩=some (.bool false)∧W.cell? ⟨b9,3,none⟩=some (.slice B9 m9 d9)∧W.cell? ⟨b10,0,none⟩=some (.bool s8)∧W.cell? ⟨b10,1,none⟩=some (.slice A8 n8 c8)∧W.cell? ⟨b10,2,none⟩=some (.bool false)∧W.cell? ⟨b10,3,none⟩=some (.slice B8 m8 d8)∧W.cell? ⟨t3,0,none⟩=some (.bool s3)∧W.cell? ⟨t3,1,none⟩=some (.slice A3 n3 c3)∧W.cell? ⟨t3,2,none⟩=some (.bool false)∧W.cell? ⟨t3,3,none⟩=some (.slice B3 m3 d3)) (first | go_keep | exact HKK.out _ (by (focus ((repeat (first | assumption | exact Al _ _ | exact Ai _ _ | exact Af _ _ _ | refine Ae ?_ (Af _ _ _) | refine Ae ?_ (Ai _ _) | refine Ae ?_ (by assumption)));done))))
     (first
     | (go_at_call 113;refine (X4 _ 1 (by omega) (by omega)).mono ?_;rintro e w6 ⟨v6,rfl,hv6,hg6⟩)
     | (go_at_call 117;refine (A31 _ _ _ ((1:Int):Rat) T (hv6.more (by (focus ((repeat (first | assumption | exact Al _ _ | exact Ai _ _ | exact Af _ _ _ | refine Ae ?_ (Af _ _ _) | refine Ae ?_ (Ai _ _) | refine Ae ?_ (by assumption)));done)))) (HV3.out.more (by (focus ((repeat (first | assumption | exact Al _ _ | exact Ai _ _ | exact Af _ _ _ | refine Ae ?_ (Af _ _ _) | refine Ae ?_ (Ai _ _) | refine Ae ?_ (by assumption)));done)))) 8 A3q HL3.out (by omega)).mono ?_;rintro e w7 ⟨v7,rfl,hv7,hg7⟩)
     | (go_at_call_of 119 (Value.agg #[.bool s9,.slice A9 n9 c9,.bool false,.slice B9 m9 d9]);refine (R0 _ _ _ X (((1:Int):Rat)-T) (HX9.out.more (by (focus ((repeat (first | assumption | exact Al _ _ | exact Ai _ _ | exact Af _ _ _ | refine Ae ?_ (Af _ _ _) | refine Ae ?_ (Ai _ _) | refine Ae ?_ (by assumption)));done)))) (hv7.more (by (focus ((repeat (first | assumption | exact Al _ _ | exact Ai _ _ | exact Af _ _ _ | refine Ae ?_ (Af _ _ _) | refine Ae ?_ (Ai _ _) | refine Ae ?_ (by assumption)));done)))) 17 (HX.out.1.mono (by omega)) (A3w HL3.out) (by omega)).mono ?_;rintro e w8 ⟨v8,rfl,hv8,hg8⟩)
     | (go_at_call_of 119 (Value.agg #[.bool s8,.slice A8 n8 c8,.bool false,.slice B8 m8 d8]);refine (R0 _ _ _ Y T (HX8.out.more (by (focus ((repeat (first | assumption | exact Al _ _ | exact Ai _ _ | exact Af _ _ _ | refine Ae ?_ (Af _ _ _) | refine Ae ?_ (Ai _ _) | refine Ae ?_ (by assumption)));done)))) (HV3.out.more (by (focus ((repeat (first | assumption | exact Al _ _ | exact Ai _ _ | exact Af _ _ _ | refine Ae ?_ (Af _ _ _) | refine Ae ?_ (Ai _ _) | refine Ae ?_ (by assumption)));done)))) 8 HX.out.2 HL3.out (by omega)).mono ?_;rintro e w9 ⟨v9,rfl,hv9,hg9⟩)
     | (go_at_call 98;refine (A28 _ _ _ (X*(((1:Int):Rat)-T)) (Y*T) (hv8.more (by (focus ((repeat (first | assumption | exact Al _ _ | exact Ai _ _ | exact Af _ _ _ | refine Ae ?_ (Af _ _ _) | refine Ae ?_ (Ai _ _) | refine Ae ?_ (by assumption)));done)))) (hv9.more (by (focus ((repeat (first | assumption | exact Al _ _ | exact Ai _ _ | exact Af _ _ _ | refine Ae ?_ (Af _ _ _) | refine Ae ?_ (Ai _ _) | refine Ae ?_ (by assumption)));done)))) 34 (L16.mul (HX.out.1.mono (by omega)) (A3w HL3.out)) ((L16.mul HX.out.2 HL3.out).mono (by omega)) (by omega)).mono ?_;rintro e w4 ⟨v4,rfl,hv4,hg4⟩;rw [HR.out] at hv4;obtain ⟨A5,c5,A6,c6,rfl,hkk⟩:=hv4.res;have HB4:=Ac (HZ.out.more (Ae HG1.out (Ae HG4.out (show w5.grownBy w4 none by (focus ((repeat (first | assumption | exact Al _ _ | exact Ai _ _ | exact Af _ _ _ | refine Ae ?_ (Af _ _ _) | refine Ae ?_ (Ai _ _) | refine Ae ?_ (by assumption)));done))))));obtain ⟨z0,z1,z2,z3,f0,f1,f2,f3⟩:=HB4.out.four)
     | (fail))
    all_goals
      generalize decide (R.num<0)=sr at *
      generalize (d16 R.num).length=nr at *
      generalize (d16 (R.den:Int)).length=nt at *
      go_wp2_with fail
      have HGF:=Ac (Ae HGW.out (Ae HG1.out (Ae HG4.out (show w5.grownBy w4 none by (focus ((repeat (first | assumption | exact Al _ _ | exact Ai _ _ | exact Af _ _ _ | refine Ae ?_ (Af _ _ _) | refine Ae ?_ (Ai _ _) | refine Ae ?_ (by assumption)));done))))))
      try simp only [Exit.inBlock,Exit.then]
      obtain ⟨w5,hw5⟩:∃ W,W=((((w4.setCell ⟨s+1+1,0,none⟩ (.bool sr)).setCell ⟨s+1+1,1,none⟩ (.slice A5 nr c5)).setCell ⟨s+1+1,2,none⟩ (.bool false)).setCell ⟨s+1+1,3,none⟩ (.slice A6 nt c6)):=⟨_,rfl⟩
      rw [←hw5]
      have hB5:Blk w5 (s+1+1) #[.bool sr,.slice A5 nr c5,.bool false,.slice A6 nt c6]:=by rw [hw5];exact (((HB4.out.set 0 _).set 1 _).set 2 _).set 3 _
      have hG5:w4.grownBy w5 (some (s+1+1)):=by rw [hw5];exact Jl _ _ _ _ _ _
      clear z0 z1 z2 z3 f0 f1 f2 f3 hw5
      obtain ⟨z0,z1,z2,z3,_⟩:=hB5.four
      refine bodyPost_ret (v:=.agg #[.bool sr,.slice A5 nr c5,.bool false,.slice A6 nt c6]) (by simp [results,Tryz.results242,go_sem,z0,z1,z2,z3]) rfl ⟨_,rfl,hkk _ _ _ HB4.out (by simp) hG5,Aw (HGF.out) hG5 (by have:=HS.out;omega)⟩
end
section
open Go.RowKit Go.Maps
open Rat
theorem A2k {vals:List (Int × Int)} {s:List Int} (h:Di 3 vals s):∀ i,i<s.length→s.getD 0 0≤s.getD i 0
 | 0,_=>Int.le_refl _
 | i+1,hi=>by
  have h1:=A2k h i (by omega)
  have h2:=(X6 h).2.1 (i+1) hi (by omega)
  rw [Nat.add_sub_cancel] at h2
  omega
set_option maxRecDepth 100000 in
theorem A2p (w:World) (vv sv:Value) (vals:List (Int × Int)) (steps:List Int) (step:Int) (hv:NumRow w vv vals) (hs:IntRow w sv steps) (hok:Di 2 vals steps) (hst:0≤step∧step≤1000000000) :
    Calls Tryz.prog 171 #[.agg #[.int .i64 2,vv,sv],.int .i64 step] w fun e w'=>∃ v,e=.returned v∧FQ w' v (Bn vals steps step)∧w.grownBy w' none:=by
  obtain ⟨⟨h1,h2,h3,h4⟩,h5⟩:=X0 hok
  obtain ⟨Av,cv,rfl,_,_⟩:=id hv
  obtain ⟨bv,ov,rfl,q0,q1⟩:=hv.at (i:=0) (by omega)
  have hbv:bv≠w.heap.size+1:=by have:=Dp q0;omega
  obtain ⟨_,_,e',r0,r1⟩:=hv.at (i:=1) (by omega)
  injection e' with e';injection e' with e1 e2 _;subst e1 e2
  obtain ⟨As,cs,rfl,_,_⟩:=hs.ctor
  obtain ⟨bs,os,rfl,_,u0⟩:=hs.at (i:=0) (by omega)
  obtain ⟨_,_,e',_,u1⟩:=hs.at (i:=1) (by omega)
  injection e' with e';injection e' with e1 e2 _;subst e1 e2
  obtain ⟨_,_,e',_,u2⟩:=hs.at (i:=2) (by omega)
  injection e' with e';injection e' with e1 e2 _;subst e1 e2
  obtain ⟨_,_,e',_,u3⟩:=hs.at (i:=3) (by omega)
  injection e' with e';injection e' with e1 e2 _;subst e1 e2
  obtain ⟨_,_,e',_,u4⟩:=hs.at (i:=4) (by omega)
  injection e' with e';injection e' with e1 e2 _;subst e1 e2
  have HN0:=Ac (Bm hok.1 0)
  have HN1:=Ac (Bm hok.1 1)
  have b0:=h5 0
  have b1:=h5 1
  have b2:=h5 2
  have b3:=h5 3
  have b4:=h5 4
  obtain ⟨R,hR⟩:∃ R,Bn vals steps step=R:=⟨_,rfl⟩
  rw [hR]
  unfold Bn vQ at hR
  have HQ:=Ac hR.symm
  have gw:=Ae (Af w (.cells #[.int .i64 2,.slice (some ⟨bv,ov,none⟩) vals.length cv,.slice (some ⟨bs,os,none⟩) steps.length cs] 85) none) (Af _ (.cells #[.bool false,.slice none 0 0,.bool false,.slice none 0 0] 143) none)
  have q0:=Aj gw q0 (by simp)
  have q1:=Aj gw q1 (by simp)
  have r0:=Aj gw r0 (by simp)
  have r1:=Aj gw r1 (by simp)
  have u0:=Aj gw u0 (by simp)
  have u1:=Aj gw u1 (by simp)
  have u2:=Aj gw u2 (by simp)
  have u3:=Aj gw u3 (by simp)
  have u4:=Aj gw u4 (by simp)
  have hB:=(Blk.new w #[.int .i64 2,.slice (some ⟨bv,ov,none⟩) vals.length cv,.slice (some ⟨bs,os,none⟩) steps.length cs] 85).more (Af _ (.cells #[.bool false,.slice none 0 0,.bool false,.slice none 0 0] 143) none)
  have hZ:=Blk.new (w.alloc (.cells #[.int .i64 2,.slice (some ⟨bv,ov,none⟩) vals.length cv,.slice (some ⟨bs,os,none⟩) steps.length cs] 85)) #[.bool false,.slice none 0 0,.bool false,.slice none 0 0] 143
  rw [World.size_alloc] at hZ
  have HZ:=Ac hZ
  have m0':=hB.cell 0
  have m1:=hB.cell 1
  have m2:=hB.cell 2
  simp only [List.getElem?_toArray,List.getElem?_cons_zero,List.getElem?_cons_succ] at m0' m1 m2
  have HGW:=Ac gw
  have i0:(0:Int)<(vals.length:Int):=by omega
  have i1:(1:Int)<(vals.length:Int):=by omega
  have j0:(0:Int)<(steps.length:Int):=by omega
  have j1:(1:Int)<(steps.length:Int):=by omega
  have j2:(2:Int)<(steps.length:Int):=by omega
  have j3:(3:Int)<(steps.length:Int):=by omega
  have j4:(4:Int)<(steps.length:Int):=by omega
  clear hv hs hok h5 hB h1 h2 hR gw hZ
  generalize steps.getD 0 0=x0 at *
  generalize steps.getD 1 0=x1 at *
  generalize steps.getD 2 0=x2 at *
  generalize steps.getD 3 0=x3 at *
  generalize steps.getD 4 0=x4 at *
  generalize vals.getD 0 (0,0)=p0 at *
  generalize vals.getD 1 (0,0)=p1 at *
  obtain ⟨m0,e0⟩:=p0
  obtain ⟨m1',e1'⟩:=p1
  simp only [Nat.zero_mul,Nat.one_mul,Nat.add_zero] at q0 q1 r0 r1 u0 HN0 HN1 HQ
  generalize vals.length=nv at *
  generalize steps.length=ns at *
  have i0n:0<nv:=by omega
  go_enter Tryz.func171,Tryz.ntmps171
  go_upto_region 5 with (fail)
  generalize (w.alloc (.cells #[.int .i64 2,.slice (some ⟨bv,ov,none⟩) nv cv,.slice (some ⟨bs,os,none⟩) ns cs] 85)).alloc (.cells #[.bool false,.slice none 0 0,.bool false,.slice none 0 0] 143)=wa at *
  generalize hs:w.heap.size=s at *
  have HS:=Ac hs
  clear hs
  have HG2:=HGW
  generalize hsx:step-x0=sx at *
  by_cases a0:step<x0
  · have HR:=Ac (HQ.out.trans (if_pos a0))
    have d0:sx<0:=by omega
    clear hsx a0 HQ u1 u2 u3 u4
    go_wp2_with fail
    refine (N7 wa m0 e0 HN0.out).mono ?_
    rintro e w4 ⟨v4,rfl,hv4,hg4⟩
    rw [←HR.out] at hv4
    obtain ⟨A5,c5,A6,c6,rfl,hkk⟩:=hv4.res
    have HGF:=Ac (Ae HG2.out hg4)
    have HB4:=Ac (HZ.out.more hg4)
    obtain ⟨z0,z1,z2,z3,f0,f1,f2,f3⟩:=HB4.out.four
    generalize decide (R.num<0)=sr at *
    generalize (d16 R.num).length=nr at *
    generalize (d16 (R.den:Int)).length=nt at *
    go_wp2_with fail
    try simp only [Exit.inBlock,Exit.then]
    obtain ⟨w5,hw5⟩:∃ W,W=((((w4.setCell ⟨s+1,0,none⟩ (.bool sr)).setCell ⟨s+1,1,none⟩ (.slice A5 nr c5)).setCell ⟨s+1,2,none⟩ (.bool false)).setCell ⟨s+1,3,none⟩ (.slice A6 nt c6)):=⟨_,rfl⟩
    rw [←hw5]
    have hB5:Blk w5 (s+1) #[.bool sr,.slice A5 nr c5,.bool false,.slice A6 nt c6]:=by rw [hw5];exact (((HB4.out.set 0 _).set 1 _).set 2 _).set 3 _
    have hG5:w4.grownBy w5 (some (s+1)):=by rw [hw5];exact Jl _ _ _ _ _ _
    clear z0 z1 z2 z3 f0 f1 f2 f3 hw5
    obtain ⟨z0,z1,z2,z3,_⟩:=hB5.four
    refine bodyPost_ret (v:=.agg #[.bool sr,.slice A5 nr c5,.bool false,.slice A6 nt c6]) (by simp [results,Tryz.results171,go_sem,z0,z1,z2,z3]) rfl ⟨_,rfl,hkk _ _ _ HB4.out (by simp) hG5,Aw (HGF.out) hG5 (by have:=HS.out;omega)⟩
  have HQ:=Ac (HQ.out.trans (if_neg a0))
  obtain ⟨t,ht⟩:∃ t,sx.tmod x4=t:=⟨_,rfl⟩
  have htb:=Bs (a:=sx) (m:=x4) (by omega) h3
  rw [ht] at HQ htb
  have d0:¬ sx<0:=by omega
  have ht2:sx % x4=t:=by rw [←ht,Int.tmod_eq_emod_of_nonneg (by omega)]
  clear hsx a0
  have e2:(x4==0)=false:=by rw [beq_eq_false_iff_ne];omega
  have e3:x4≠0:=by omega
  have e4:IntKind.i64.wrap t=t:=IntWalk.i64_in _ (by omega)
  have e5:IntKind.i64.wrap (x1+x2)=x1+x2:=IntWalk.i64_in _ (by omega)
  have e6:IntKind.i64.wrap (x1+x2+x3)=x1+x2+x3:=IntWalk.i64_in _ (by omega)
  go_wp2_with fail
  go_quiet (fail)
  have HGD:=Ac (Az wa nq none)
  have HG2:=Ac (Ae HG2.out HGD.out)
  have HZ:=Ac (HZ.out.more HGD.out)
  have m1:=Aj HGD.out m1 (by simp)
  have q0:=Aj HGD.out q0 (by simp)
  have q1:=Aj HGD.out q1 (by simp)
  have r0:=Aj HGD.out r0 (by simp)
  have r1:=Aj HGD.out r1 (by simp)
  clear HGD m2 u0 u1 u2 u3 u4
  generalize wa.drewN nq=wk at *
  have HKK:=Ac (fun W (h:wk.grownBy W none)=>(⟨Aj h m1 (by simp),Aj h q0 (by simp),Aj h q1 (by simp),Aj h r0 (by simp),Aj h r1 (by simp)⟩:W.cell? ⟨s,1,none⟩=some (.slice (some ⟨bv,ov,none⟩) nv cv)∧W.cell? ⟨bv,ov,none⟩=some (.int .i64 m0)∧W.cell? ⟨bv,ov+1,none⟩=some (.int .i64 e0)∧W.cell? ⟨bv,ov+2,none⟩=some (.int .i64 m1')∧W.cell? ⟨bv,ov+2+1,none⟩=some (.int .i64 e1')))
  have ne1:s≠s+1:=by omega
  have ne2:s+1≠s:=by omega
  have ne3:=Ne.symm hbv
  by_cases a1:t<x1
  · have HR:=Ac (HQ.out.trans (if_pos a1))
    have HK:Hid (t.natAbs≤2000000000∧x1.natAbs≤2000000000∧x1≠0):=Ac (by omega)
    clear HQ b0 b1 b2 b3 b4 h3 h4
    go_wp2_with fail
    go_region_held3 (fun W=>W.cell? ⟨s,1,none⟩=some (.slice (some ⟨bv,ov,none⟩) nv cv)∧W.cell? ⟨bv,ov,none⟩=some (.int .i64 m0)∧W.cell? ⟨bv,ov+1,none⟩=some (.int .i64 e0)∧W.cell? ⟨bv,ov+2,none⟩=some (.int .i64 m1')∧W.cell? ⟨bv,ov+2+1,none⟩=some (.int .i64 e1')) (first | go_keep | exact HKK.out _ (by (focus ((repeat (first | assumption | exact Al _ _ | exact Ai _ _ | exact Af _ _ _ | refine Ae ?_ (Af _ _ _) | refine Ae ?_ (Ai _ _) | refine Ae ?_ (by assumption)));done))))
     ((go_at_call 242;refine (V2 _ m0 e0 m1' e1' t x1 HN0.out HN1.out HK.out.1 HK.out.2.1 HK.out.2.2).mono ?_;rintro e w4 ⟨v4,rfl,hv4,hg4⟩;rw [←HR.out] at hv4;obtain ⟨A5,c5,A6,c6,rfl,hkk⟩:=hv4.res;have HG4:=Ac (show wk.grownBy w4 none by (focus ((repeat (first | assumption | exact Al _ _ | exact Ai _ _ | exact Af _ _ _ | refine Ae ?_ (Af _ _ _) | refine Ae ?_ (Ai _ _) | refine Ae ?_ (by assumption)));done)));have HGF:=Ac (Ae HG2.out HG4.out);have HB4:=Ac (HZ.out.more HG4.out);obtain ⟨z0,z1,z2,z3,f0,f1,f2,f3⟩:=HB4.out.four))
    all_goals
      generalize decide (R.num<0)=sr at *
      generalize (d16 R.num).length=nr at *
      generalize (d16 (R.den:Int)).length=nt at *
      go_wp2_with fail
      try simp only [Exit.inBlock,Exit.then]
      obtain ⟨w5,hw5⟩:∃ W,W=((((w4.setCell ⟨s+1,0,none⟩ (.bool sr)).setCell ⟨s+1,1,none⟩ (.slice A5 nr c5)).setCell ⟨s+1,2,none⟩ (.bool false)).setCell ⟨s+1,3,none⟩ (.slice A6 nt c6)):=⟨_,rfl⟩
      rw [←hw5]
      have hB5:Blk w5 (s+1) #[.bool sr,.slice A5 nr c5,.bool false,.slice A6 nt c6]:=by rw [hw5];exact (((HB4.out.set 0 _).set 1 _).set 2 _).set 3 _
      have hG5:w4.grownBy w5 (some (s+1)):=by rw [hw5];exact Jl _ _ _ _ _ _
      clear z0 z1 z2 z3 f0 f1 f2 f3 hw5
      obtain ⟨z0,z1,z2,z3,_⟩:=hB5.four
      refine bodyPost_ret (v:=.agg #[.bool sr,.slice A5 nr c5,.bool false,.slice A6 nt c6]) (by simp [results,Tryz.results171,go_sem,z0,z1,z2,z3]) rfl ⟨_,rfl,hkk _ _ _ HB4.out (by simp) hG5,Aw (HGF.out) hG5 (by have:=HS.out;omega)⟩
  have HQ:=Ac (HQ.out.trans (if_neg a1))
  by_cases a2:t<x1+x2
  · have HR:=Ac (HQ.out.trans (if_pos a2))
    clear HQ
    go_wp2_with fail
    refine (N7 wk m1' e1' HN1.out).mono ?_
    rintro e w4 ⟨v4,rfl,hv4,hg4⟩
    rw [←HR.out] at hv4
    obtain ⟨A5,c5,A6,c6,rfl,hkk⟩:=hv4.res
    have HGF:=Ac (Ae HG2.out hg4)
    have HB4:=Ac (HZ.out.more hg4)
    obtain ⟨z0,z1,z2,z3,f0,f1,f2,f3⟩:=HB4.out.four
    generalize decide (R.num<0)=sr at *
    generalize (d16 R.num).length=nr at *
    generalize (d16 (R.den:Int)).length=nt at *
    go_wp2_with fail
    try simp only [Exit.inBlock,Exit.then]
    obtain ⟨w5,hw5⟩:∃ W,W=((((w4.setCell ⟨s+1,0,none⟩ (.bool sr)).setCell ⟨s+1,1,none⟩ (.slice A5 nr c5)).setCell ⟨s+1,2,none⟩ (.bool false)).setCell ⟨s+1,3,none⟩ (.slice A6 nt c6)):=⟨_,rfl⟩
    rw [←hw5]
    have hB5:Blk w5 (s+1) #[.bool sr,.slice A5 nr c5,.bool false,.slice A6 nt c6]:=by rw [hw5];exact (((HB4.out.set 0 _).set 1 _).set 2 _).set 3 _
    have hG5:w4.grownBy w5 (some (s+1)):=by rw [hw5];exact Jl _ _ _ _ _ _
    clear z0 z1 z2 z3 f0 f1 f2 f3 hw5
    obtain ⟨z0,z1,z2,z3,_⟩:=hB5.four
    refine bodyPost_ret (v:=.agg #[.bool sr,.slice A5 nr c5,.bool false,.slice A6 nt c6]) (by simp [results,Tryz.results171,go_sem,z0,z1,z2,z3]) rfl ⟨_,rfl,hkk _ _ _ HB4.out (by simp) hG5,Aw (HGF.out) hG5 (by have:=HS.out;omega)⟩
  have HQ:=Ac (HQ.out.trans (if_neg a2))
  by_cases a3:t<x1+x2+x3
  · have HR:=Ac (HQ.out.trans (if_pos a3))
    have HK:Hid ((t-x1-x2).natAbs≤2000000000∧x3.natAbs≤2000000000∧x3≠0):=Ac (by omega)
    have e7:IntKind.i64.wrap (t-(x1+x2))=t-x1-x2:=by rw [show t-(x1+x2)=t-x1-x2 by omega];exact IntWalk.i64_in _ (by omega)
    have e8:IntKind.i64.wrap (x1+x2+x3-(x1+x2))=x3:=by rw [show x1+x2+x3-(x1+x2)=x3 by omega];exact IntWalk.i64_in _ (by omega)
    clear HQ
    go_wp2_with fail
    go_region_held3 (fun W=>W.cell? ⟨s,1,none⟩=some (.slice (some ⟨bv,ov,none⟩) nv cv)∧W.cell? ⟨bv,ov,none⟩=some (.int .i64 m0)∧W.cell? ⟨bv,ov+1,none⟩=some (.int .i64 e0)∧W.cell? ⟨bv,ov+2,none⟩=some (.int .i64 m1')∧W.cell? ⟨bv,ov+2+1,none⟩=some (.int .i64 e1')) (first | go_keep | exact HKK.out _ (by (focus ((repeat (first | assumption | exact Al _ _ | exact Ai _ _ | exact Af _ _ _ | refine Ae ?_ (Af _ _ _) | refine Ae ?_ (Ai _ _) | refine Ae ?_ (by assumption)));done))))
     ((go_at_call 242;refine (V2 _ m1' e1' m0 e0 (t-x1-x2) x3 HN1.out HN0.out HK.out.1 HK.out.2.1 HK.out.2.2).mono ?_;rintro e w4 ⟨v4,rfl,hv4,hg4⟩;rw [←HR.out] at hv4;obtain ⟨A5,c5,A6,c6,rfl,hkk⟩:=hv4.res;have HG4:=Ac (show wk.grownBy w4 none by (focus ((repeat (first | assumption | exact Al _ _ | exact Ai _ _ | exact Af _ _ _ | refine Ae ?_ (Af _ _ _) | refine Ae ?_ (Ai _ _) | refine Ae ?_ (by assumption)));done)));have HGF:=Ac (Ae HG2.out HG4.out);have HB4:=Ac (HZ.out.more HG4.out);obtain ⟨z0,z1,z2,z3,f0,f1,f2,f3⟩:=HB4.out.four))
    all_goals
      generalize decide (R.num<0)=sr at *
      generalize (d16 R.num).length=nr at *
      generalize (d16 (R.den:Int)).length=nt at *
      go_wp2_with fail
      try simp only [Exit.inBlock,Exit.then]
      obtain ⟨w5,hw5⟩:∃ W,W=((((w4.setCell ⟨s+1,0,none⟩ (.bool sr)).setCell ⟨s+1,1,none⟩ (.slice A5 nr c5)).setCell ⟨s+1,2,none⟩ (.bool false)).setCell ⟨s+1,3,none⟩ (.slice A6 nt c6)):=⟨_,rfl⟩
      rw [←hw5]
      have hB5:Blk w5 (s+1) #[.bool sr,.slice A5 nr c5,.bool false,.slice A6 nt c6]:=by rw [hw5];exact (((HB4.out.set 0 _).set 1 _).set 2 _).set 3 _
      have hG5:w4.grownBy w5 (some (s+1)):=by rw [hw5];exact Jl _ _ _ _ _ _
      clear z0 z1 z2 z3 f0 f1 f2 f3 hw5
      obtain ⟨z0,z1,z2,z3,_⟩:=hB5.four
      refine bodyPost_ret (v:=.agg #[.bool sr,.slice A5 nr c5,.bool false,.slice A6 nt c6]) (by simp [results,Tryz.results171,go_sem,z0,z1,z2,z3]) rfl ⟨_,rfl,hkk _ _ _ HB4.out (by simp) hG5,Aw (HGF.out) hG5 (by have:=HS.out;omega)⟩
  · have HR:=Ac (HQ.out.trans (if_neg a3))
    clear HQ
    go_wp2_with fail
    refine (N7 wk m0 e0 HN0.out).mono ?_
    rintro e w4 ⟨v4,rfl,hv4,hg4⟩
    rw [←HR.out] at hv4
    obtain ⟨A5,c5,A6,c6,rfl,hkk⟩:=hv4.res
    have HGF:=Ac (Ae HG2.out hg4)
    have HB4:=Ac (HZ.out.more hg4)
    obtain ⟨z0,z1,z2,z3,f0,f1,f2,f3⟩:=HB4.out.four
    generalize decide (R.num<0)=sr at *
    generalize (d16 R.num).length=nr at *
    generalize (d16 (R.den:Int)).length=nt at *
    go_wp2_with fail
    try simp only [Exit.inBlock,Exit.then]
    obtain ⟨w5,hw5⟩:∃ W,W=((((w4.setCell ⟨s+1,0,none⟩ (.bool sr)).setCell ⟨s+1,1,none⟩ (.slice A5 nr c5)).setCell ⟨s+1,2,none⟩ (.bool false)).setCell ⟨s+1,3,none⟩ (.slice A6 nt c6)):=⟨_,rfl⟩
    rw [←hw5]
    have hB5:Blk w5 (s+1) #[.bool sr,.slice A5 nr c5,.bool false,.slice A6 nt c6]:=by rw [hw5];exact (((HB4.out.set 0 _).set 1 _).set 2 _).set 3 _
    have hG5:w4.grownBy w5 (some (s+1)):=by rw [hw5];exact Jl _ _ _ _ _ _
    clear z0 z1 z2 z3 f0 f1 f2 f3 hw5
    obtain ⟨z0,z1,z2,z3,_⟩:=hB5.four
    refine bodyPost_ret (v:=.agg #[.bool sr,.slice A5 nr c5,.bool false,.slice A6 nt c6]) (by simp [results,Tryz.results171,go_sem,z0,z1,z2,z3]) rfl ⟨_,rfl,hkk _ _ _ HB4.out (by simp) hG5,Aw (HGF.out) hG5 (by have:=HS.out;omega)⟩
end
end Go.Proofs.YtckbiimikeiejaaGreatDoor
