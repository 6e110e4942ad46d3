/- Limb. -/
import Derived.Test.YtckbiimikeiejaaGreatDoorMae
set_option linter.unusedVariables false
set_option linter.unusedSimpArgs false
set_option maxHeartbeats 40000000
namespace Go.Proofs.YtckbiimikeiejaaGreatDoor
section
open Go.RowKit
open Rat
def IntOK (neg:Bool) (xs:List Nat):Prop:=xs.length≤72∧Iw xs∧(xs=[]→neg=false)
instance (neg:Bool) (xs:List Nat):Decidable (IntOK neg xs):=by unfold IntOK Iw;infer_instance
theorem A2e (z:Int) (h:lim z≤72):IntOK (decide (z<0)) (digs z) :=
 ⟨h,A3a z,fun e=>by rw [(S8 z).1 e];rfl⟩
theorem IntOK.digs {neg:Bool} {xs:List Nat} (h:IntOK neg xs) (hb:∀ x∈xs,x<4294967296):digs (sg neg (val 4294967296 xs))=xs∧decide (sg neg (val 4294967296 xs)<0)=neg:=by
 have e:=Vk 4294967296 (by omega) xs hb h.2.1
 refine ⟨by rw [Qp];exact e,?_⟩
 rw [V5]
 by_cases h0:xs=[]
 ·rw [h.2.2 h0];rfl
 ·have:val 4294967296 xs≠0:=fun hz=>h0 (by rw [←e,hz];exact Dw _)
  simp [this]
theorem Uq {xs:List Nat} (h:0<xs.length):Iw xs↔xs[xs.length-1]?.getD 0≠0:=by
 have hne:xs≠[]:=by intro e;rw [e] at h;simp at h
 have:xs[xs.length-1]?.getD 0=xs.getLast hne:=by
  rw [List.getLast_eq_getElem hne,List.getElem?_eq_getElem (by omega)];rfl
 rw [this]
 exact ⟨fun hh=>hh hne,fun hh _=>hh⟩
set_option maxRecDepth 100000 in
theorem Db (w:World) (neg:Bool) (v:Value) (xs:List Nat) (hx:Nums w v xs) :
  Calls Tryz.prog 79 #[.agg #[.bool neg,v]] w fun e w'=>e=.returned (.int .i64 (if IntOK neg xs then 0 else 10))∧w.grownBy w' none:=by
 have gw:=fun v'=>Af w (.cells #[.bool neg,v'] 49) none
 have hB:=fun v'=>Blk.new w #[.bool neg,v'] 49
 have bxs:=hx.lt
 obtain ⟨A,c,rfl,h1,h2,hA⟩:=hx.read
 obtain ⟨b0,b1,_⟩:=(hB (.slice A xs.length c)).two
 have hgw:=gw (.slice A xs.length c)
 by_cases h72:72<xs.length
 ·have hno:¬ IntOK neg xs:=fun h=>by have:=h.1;omega
  rw [if_neg hno]
  clear hx hA hno gw hB
  generalize xs.length=n at *
  go_enter Tryz.func79,Tryz.ntmps79
  go_wp2
  go_ret
  exact ⟨rfl,hgw⟩
 ·by_cases h0:xs.length=0
  ·obtain rfl:=List.eq_nil_of_length_eq_zero h0
   have hr:(if IntOK neg [] then (0:Int) else 10)=if neg then 10 else 0:=by cases neg<;>decide
   rw [hr]
   clear hr hx hA gw hB
   simp only [List.length_nil] at *
   cases neg
   ·go_enter Tryz.func79,Tryz.ntmps79
    go_wp2
    go_ret
    exact ⟨rfl,hgw⟩
   ·go_enter Tryz.func79,Tryz.ntmps79
    go_wp2
    go_ret
    exact ⟨rfl,hgw⟩
  ·have hr:(if IntOK neg xs then (0:Int) else 10)=if xs[xs.length-1]?.getD 0=0 then 10 else 0:=by
    have hl:=Uq (xs:=xs) (by omega)
    by_cases hz:xs[xs.length-1]?.getD 0=0
    ·rw [if_pos hz,if_neg (fun h=>(hl.1 h.2.1) hz)]
    ·rw [if_neg hz,if_pos ⟨by omega,hl.2 hz,fun e=>absurd (by rw [e];rfl) h0⟩]
   rw [hr]
   obtain ⟨b,o,rfl,hc⟩:=hA (by omega)
   have hcn:=Aj (Af w (.cells #[.bool neg,.slice (some ⟨b,o,none⟩) xs.length c] 49) none) (hc (xs.length-1) (by omega)) (by simp)
   clear hr hx hA gw hB hc
   have t0:((xs.length:Int)==0)=false:=by rw [beq_eq_false_iff_ne];omega
   generalize xs[xs.length-1]?.getD 0=d at *
   generalize xs.length=n at *
   by_cases hz:d=0
   ·subst hz
    rw [if_pos rfl]
    go_enter Tryz.func79,Tryz.ntmps79
    go_wp2
    go_ret
    exact ⟨rfl,hgw⟩
   ·rw [if_neg hz]
    have t:((d:Int)==0)=false:=by simpa using hz
    go_enter Tryz.func79,Tryz.ntmps79
    go_wp2
    go_ret
    exact ⟨rfl,hgw⟩
theorem Nj (w:World) (n1 n2:Bool) (v1 v2:Value) (xs ys:List Nat) (hx:Nums w v1 xs) (hy:Nums w v2 ys) :
  Calls Tryz.prog 88 #[.agg #[.bool n1,v1],.agg #[.bool n2,v2]] w fun e w'=>e=.returned (.int .i64 (if IntOK n1 xs∧IntOK n2 ys then 0 else 10))∧w.grownBy w' none:=by
 obtain ⟨A1,m1,c1,rfl⟩:=hx.ctor
 obtain ⟨A2,m2,c2,rfl⟩:=hy.ctor
 have gw:=Ae (Af w (.cells #[.bool n1,.slice A1 m1 c1] 49) none) (Af _ (.cells #[.bool n2,.slice A2 m2 c2] 49) none)
 have hB1:=(Blk.new w #[.bool n1,.slice A1 m1 c1] 49).more (Af _ (.cells #[.bool n2,.slice A2 m2 c2] 49) none)
 have hB2:=Blk.new (w.alloc (.cells #[.bool n1,.slice A1 m1 c1] 49)) #[.bool n2,.slice A2 m2 c2] 49
 rw [World.size_alloc] at hB2
 obtain ⟨b0,b1,_⟩:=hB1.two
 obtain ⟨d0,d1,_⟩:=hB2.two
 by_cases hk:IntOK n1 xs
 ·have hc:(if IntOK n1 xs then (0:Int) else 10)=0:=if_pos hk
  have hr:(if IntOK n1 xs∧IntOK n2 ys then (0:Int) else 10)=if IntOK n2 ys then 0 else 10:=by simp [hk]
  rw [hr]
  generalize hres:(if IntOK n2 ys then (0:Int) else 10)=res
  have HR:=Ac hres
  clear hres hr
  go_enter Tryz.func88,Tryz.ntmps88
  go_wp2_with fail
  generalize (w.alloc (.cells #[.bool n1,.slice A1 m1 c1] 49)).alloc (.cells #[.bool n2,.slice A2 m2 c2] 49)=wa at *
  refine (Db wa n1 _ xs (hx.more gw)).mono ?_
  rintro e w1 ⟨rfl,hg⟩
  rw [hc]
  have e0:=Aj hg d0 (by simp)
  have e1:=Aj hg d1 (by simp)
  go_wp2_with fail
  refine (Db w1 n2 _ ys (hy.more (Ae gw hg))).mono ?_
  rintro e w2 ⟨rfl,hg2⟩
  rw [HR.out]
  go_wp2
  go_ret
  exact ⟨rfl,Ae gw (Ae hg hg2)⟩
 ·have hc:(if IntOK n1 xs then (0:Int) else 10)=10:=if_neg hk
  have hr:(if IntOK n1 xs∧IntOK n2 ys then (0:Int) else 10)=10:=by simp [hk]
  rw [hr]
  clear hr
  go_enter Tryz.func88,Tryz.ntmps88
  go_wp2_with fail
  generalize (w.alloc (.cells #[.bool n1,.slice A1 m1 c1] 49)).alloc (.cells #[.bool n2,.slice A2 m2 c2] 49)=wa at *
  refine (Db wa n1 _ xs (hx.more gw)).mono ?_
  rintro e w1 ⟨rfl,hg⟩
  rw [hc]
  go_wp2
  go_ret
  exact ⟨rfl,Ae gw hg⟩
theorem Lo (w:World) (v:Int) (h1:-9223372036854775808≤v) (h2:v≤9223372036854775807) :
  Calls Tryz.prog 35 #[.int .i64 v] w fun e w'=>∃ s,e=.returned (.agg #[.bool (decide (v<0)),s])∧Nums w' s (digs v)∧From w.heap.size s∧w.grownBy w' none:=by
 have gw:=Af w (zint 49) none
 have hB:=Blk.new w #[.bool false,.slice none 0 0] 49
 have l1:=Ii h1 h2
 have hs1:(w.alloc (zint 49)).heap.size=w.heap.size+1:=by simp
 go_enter Tryz.func35,Tryz.ntmps35
 go_wp2_with fail
 generalize w.alloc (zint 49)=w1 at *
 generalize hs:w.heap.size=s at *
 refine (C3 w1 v h1 h2).mono ?_
 rintro e w2 ⟨bn,rfl,hi2,hb2,hg2⟩
 go_wp2_with fail
 refine (E6 w2 bn 0 v hi2.at (by omega)).mono ?_
 rintro e w3 ⟨v3,rfl,hn3,hf3,hg3⟩
 have g3:=Ae hg2 hg3
 have hs2:=hg2.size
 obtain ⟨c0,c1,f0,f1⟩:=(hB.more g3).two
 obtain ⟨A,n,c,rfl⟩:=hn3.ctor
 go_wp2
 try simp only [Exit.inBlock,Exit.then]
 have hg4:w3.grownBy ((w3.setCell ⟨s,0,none⟩ (.bool (decide (v<0)))).setCell ⟨s,1,none⟩ (.slice A n c)) (some s):=Ae (Au _ _ _ _) (Au _ _ _ _)
 refine bodyPost_ret (v:=.agg #[.bool (decide (v<0)),.slice A n c]) (by simp [results,Tryz.results35,go_sem,c0,c1]) rfl ⟨_,rfl,?_,?_,?_⟩
 ·exact hn3.apart hg4 (fun e=>by have:=hf3 _ e;omega)
 ·exact hf3.mono (by omega)
 ·exact Aw (Ae gw g3) hg4 (by omega)
end
end Go.Proofs.YtckbiimikeiejaaGreatDoor
