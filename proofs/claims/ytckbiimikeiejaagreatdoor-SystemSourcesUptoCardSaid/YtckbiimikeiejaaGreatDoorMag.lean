/- LimbB LimbC RatA RatC RatD NumA. -/
import Derived.Test.YtckbiimikeiejaaGreatDoorMaf
set_option linter.unusedVariables false
set_option linter.unusedSimpArgs false
set_option maxHeartbeats 40000000
namespace Go.Proofs.YtckbiimikeiejaaGreatDoor
section
open Go.RowKit
open Rat
theorem IntB.new' {w0:World} {n:Nat} (h:w0.heap.size=n) (T:TypeId):IntB (w0.alloc (zint T)) n 0:=by subst h;exact IntB.new _ _
theorem Blk.seen {w:World} {b:Nat} {x y:Value} (h:Blk w b #[x,y]):(w.cell? ⟨b,0,none⟩=some x∧w.cell? ⟨b,1,none⟩=some y∧w.frozen? ⟨b,0,none⟩=false∧w.frozen? ⟨b,1,none⟩=false)∧
  (∀ o,(w.alloc o).cell? ⟨b,0,none⟩=some x)∧(∀ o,(w.alloc o).cell? ⟨b,1,none⟩=some y)∧(∀ o,(w.alloc o).frozen? ⟨b,0,none⟩=false)∧(∀ o,(w.alloc o).frozen? ⟨b,1,none⟩=false) :=
 ⟨h.two,fun o=>(h.more (Af _ _ _)).cell 0,fun o=>(h.more (Af _ _ _)).cell 1,fun o=>(h.more (Af _ _ _)).free 0,fun o=>(h.more (Af _ _ _)).free 1⟩
def okI (n1 n2:Bool) (xs ys:List Nat):Prop:=IntOK n1 xs∧IntOK n2 ys
instance (n1 n2:Bool) (xs ys:List Nat):Decidable (okI n1 n2 xs ys):=by unfold okI;infer_instance
end
section
open Go.RowKit
open Rat
set_option maxRecDepth 100000 in
theorem Tv (w:World) (n1 n2:Bool) (v1 v2:Value) (xs ys:List Nat) (hx:Nums w v1 xs) (hy:Nums w v2 ys) :
    Calls Tryz.prog 33 #[.agg #[.bool n1,v1],.agg #[.bool n2,v2]] w fun e w'=>∃ s,e=.returned (.tuple #[.agg #[.bool false,s],.int .i64 (if okI n1 n2 xs ys then 0 else 10)])∧
      Nums w' s (digs (if okI n1 n2 xs ys then (Nat.gcd (val 4294967296 xs) (val 4294967296 ys):Int) else 0))∧From w.heap.size s∧w.grownBy w' none:=by
  obtain ⟨A1,m1,c1,rfl⟩:=hx.ctor
  obtain ⟨A2,m2,c2,rfl⟩:=hy.ctor
  have gw:=Ae (Ae (Af w (.cells #[.bool n1,.slice A1 m1 c1] 49) none) (Af _ (.cells #[.bool n2,.slice A2 m2 c2] 49) none)) (Af _ (zint 49) none)
  have hB1:=(Blk.new w #[.bool n1,.slice A1 m1 c1] 49).more (Ae (Af _ (.cells #[.bool n2,.slice A2 m2 c2] 49) none) (Af _ (zint 49) none))
  have hB2:=(Blk.new (w.alloc (.cells #[.bool n1,.slice A1 m1 c1] 49)) #[.bool n2,.slice A2 m2 c2] 49).more (Af _ (zint 49) none)
  have hB3:=Blk.new ((w.alloc (.cells #[.bool n1,.slice A1 m1 c1] 49)).alloc (.cells #[.bool n2,.slice A2 m2 c2] 49)) #[.bool false,.slice none 0 0] 49
  have hsz:(((w.alloc (.cells #[.bool n1,.slice A1 m1 c1] 49)).alloc (.cells #[.bool n2,.slice A2 m2 c2] 49)).alloc (zint 49)).heap.size=w.heap.size+3:=by simp
  rw [World.size_alloc] at hB2 hB3
  rw [World.size_alloc] at hB3
  by_cases hk:okI n1 n2 xs ys
  · have hc:(if IntOK n1 xs∧IntOK n2 ys then (0:Int) else 10)=0:=if_pos hk
    have eg:(Nat.gcd (sg n1 (val 4294967296 xs)).natAbs (sg n2 (val 4294967296 ys)).natAbs:Int)=(Nat.gcd (val 4294967296 xs) (val 4294967296 ys):Int):=by rw [I1,I1]
    have lg:lim (Nat.gcd (val 4294967296 xs) (val 4294967296 ys):Int)≤72+72:=by
      refine (Ek _ _).2 ?_
      have hxb:=(Ek _ _).1 (Ij (neg:=n1) hx.2)
      have hyb:=(Ek _ _).1 (Ij (neg:=n1) hy.2)
      rw [I1] at hxb hyb
      have k1:=hk.1.1
      have k2:=hk.2.1
      have p1:val 4294967296 xs<4294967296 ^ (72+72):=Nat.lt_of_lt_of_le hxb (Nat.pow_le_pow_right (by omega) (by omega))
      have p2:val 4294967296 ys<4294967296 ^ (72+72):=Nat.lt_of_lt_of_le hyb (Nat.pow_le_pow_right (by omega) (by omega))
      have p3:=Nat.gcd_le_left (m:=val 4294967296 xs) (val 4294967296 ys)
      simp only [Int.natAbs_natCast]
      by_cases hz:val 4294967296 xs=0
      · rw [hz,Nat.gcd_zero_left];exact p2
      · exact Nat.lt_of_le_of_lt (p3 (by omega)) p1
    have EG:=Ac eg
    have hng:decide ((Nat.gcd (val 4294967296 xs) (val 4294967296 ys):Int)<0)=false:=decide_eq_false (by omega)
    have HNG:=Ac hng
    have l1:lim (sg n1 (val 4294967296 xs))≤72:=Nat.le_trans (Ij hx.2) hk.1.1
    have l2:lim (sg n2 (val 4294967296 ys))≤72:=Nat.le_trans (Ij hy.2) hk.2.1
    have lx:=hk.1.1
    have ly:=hk.2.1
    rw [if_pos hk,if_pos hk]
    clear hk eg hng
    go_enter Tryz.func33,Tryz.ntmps33
    go_wp2_with fail
    generalize ((w.alloc (.cells #[.bool n1,.slice A1 m1 c1] 49)).alloc (.cells #[.bool n2,.slice A2 m2 c2] 49)).alloc (zint 49)=wa at *
    generalize hs:w.heap.size=s at *
    refine (Nj wa n1 n2 _ _ xs ys (hx.more gw) (hy.more gw)).mono ?_
    rintro e w1 ⟨rfl,hg⟩
    rw [hc]
    have g1:=Ae gw hg
    have hx1:=hx.more g1
    have hy1:=hy.more g1
    have hs1:=hg.size
    have B1:=hB1.more hg
    have B2:=hB2.more hg
    have B3:=hB3.more hg
    have k1:=Ac B1
    have k2:=Ac B2
    have k3:=Ac B3
    have K:∀ w',w1.grownBy w' none→w'.cell? ⟨s,0,none⟩=some (.bool n1)∧w'.cell? ⟨s,1,none⟩=some (.slice A1 m1 c1)∧w'.cell? ⟨s+1,0,none⟩=some (.bool n2)∧w'.cell? ⟨s+1,1,none⟩=some (.slice A2 m2 c2):=fun w' h=>⟨(B1.more h).cell 0,(B1.more h).cell 1,(B2.more h).cell 0,(B2.more h).cell 1⟩
    obtain ⟨_,_,_,_⟩:=K w1 (Al _ _)
    have HK:=Ac K
    have ne1:s+1+1≠s:=by omega
    have ne2:s≠s+1+1:=by omega
    clear B1 B2 B3 hB1 hB2 hB3 gw K
    go_wp2_with fail
    go_region_held3 (fun w'=>w'.cell? ⟨s,0,none⟩=some (.bool n1)∧w'.cell? ⟨s,1,none⟩=some (.slice A1 m1 c1)∧w'.cell? ⟨s+1,0,none⟩=some (.bool n2)∧w'.cell? ⟨s+1,1,none⟩=some (.slice A2 m2 c2)) (first | go_keep | exact HK.out _ (by (focus ((repeat (first | assumption | exact Al _ _ | exact Ai _ _ | exact Af _ _ _ | refine Ae ?_ (Af _ _ _) | refine Ae ?_ (Ai _ _) | refine Ae ?_ (by assumption)));done))))
     (first
     | (go_at_call_of 71 (Value.agg #[.bool n1,.slice A1 m1 c1]);refine (Dn _ n1 _ xs (hx1.more (by (focus ((repeat (first | assumption | exact Al _ _ | exact Ai _ _ | exact Af _ _ _ | refine Ae ?_ (Af _ _ _) | refine Ae ?_ (Ai _ _) | refine Ae ?_ (by assumption)));done)))) (by omega)).mono ?_;rintro e w2 ⟨bb2,rfl,hi2,hb2,hg2⟩)
     | (go_at_call 71;refine (Dn _ n2 _ ys (hy1.more (by (focus ((repeat (first | assumption | exact Al _ _ | exact Ai _ _ | exact Af _ _ _ | refine Ae ?_ (Af _ _ _) | refine Ae ?_ (Ai _ _) | refine Ae ?_ (by assumption)));done)))) (by omega)).mono ?_;rintro e w3 ⟨bb3,rfl,hi3,hb3,hg3⟩)
     | (go_at_call 89;refine (Ll _ bb2 0 bb3 0 _ _ (hi2.at.more (by (focus ((repeat (first | assumption | exact Al _ _ | exact Ai _ _ | exact Af _ _ _ | refine Ae ?_ (Af _ _ _) | refine Ae ?_ (Ai _ _) | refine Ae ?_ (by assumption)));done)))) (hi3.at.more (by (focus ((repeat (first | assumption | exact Al _ _ | exact Ai _ _ | exact Af _ _ _ | refine Ae ?_ (Af _ _ _) | refine Ae ?_ (Ai _ _) | refine Ae ?_ (by assumption)));done)))) (by omega) (by omega)).mono ?_;rintro e w4 ⟨bb4,rfl,hi4,hb4,hg4⟩;rw [EG.out] at hi4)
     | (go_at_call 76;refine (E6 w4 bb4 0 _ hi4.at (by omega)).mono ?_;rintro e w5 ⟨sl,rfl,hn5,hf5,hg5⟩;have g4:w1.grownBy w4 none:=(by (focus ((repeat (first | assumption | exact Al _ _ | exact Ai _ _ | exact Af _ _ _ | refine Ae ?_ (Af _ _ _) | refine Ae ?_ (Ai _ _) | refine Ae ?_ (by assumption)));done)));obtain ⟨A5,m5,c5,rfl⟩:=hn5.ctor;rw [HNG.out];obtain ⟨_,_,_,_⟩:=(k3.out.more (Ae g4 hg5)).two))
    all_goals
      go_wp2
      try simp only [Exit.inBlock,Exit.then]
      have hg6:w5.grownBy ((w5.setCell ⟨s+1+1,0,none⟩ (.bool false)).setCell ⟨s+1+1,1,none⟩ (.slice A5 m5 c5)) (some (s+1+1)):=Ae (Au _ _ _ _) (Au _ _ _ _)
      have hs4:=g4.size
      refine bodyPost_ret (v:=.tuple #[.agg #[.bool false,.slice A5 m5 c5],.int .i64 0]) (by simp [results,Tryz.results33,go_sem, *]) rfl ⟨_,rfl,?_,?_,?_⟩
      · exact hn5.apart hg6 (fun e=>by have:=hf5 _ e;omega)
      · exact hf5.mono (by omega)
      · exact Aw (Ae g1 (Ae g4 hg5)) hg6 (by omega)
  · have hc:(if IntOK n1 xs∧IntOK n2 ys then (0:Int) else 10)=10:=if_neg hk
    rw [if_neg hk,if_neg hk]
    clear hk
    go_enter Tryz.func33,Tryz.ntmps33
    go_wp2_with fail
    generalize ((w.alloc (.cells #[.bool n1,.slice A1 m1 c1] 49)).alloc (.cells #[.bool n2,.slice A2 m2 c2] 49)).alloc (zint 49)=wa at *
    generalize hs:w.heap.size=s at *
    refine (Nj wa n1 n2 _ _ xs ys (hx.more gw) (hy.more gw)).mono ?_
    rintro e w1 ⟨rfl,hg⟩
    rw [hc]
    obtain ⟨d0,d1,f0,f1⟩:=(hB3.more hg).two
    go_wp2
    try simp only [Exit.inBlock,Exit.then]
    have hg6:w1.grownBy ((w1.setCell ⟨s+1+1,0,none⟩ (.bool false)).setCell ⟨s+1+1,1,none⟩ (.slice none 0 0)) (some (s+1+1)):=Ae (Au _ _ _ _) (Au _ _ _ _)
    refine bodyPost_ret (v:=.tuple #[.agg #[.bool false,.slice none 0 0],.int .i64 10]) (by simp [results,Tryz.results33,go_sem,d0,d1]) rfl ⟨.slice none 0 0,rfl,Nums.nil _,?_,?_⟩
    · intro b hb;simp [Value.ownBlock] at hb
    · exact Aw (Ae gw hg) hg6 (by omega)
end
section
open Go.RowKit
open Rat
def OnG (z:Int):Prop:=-1000000000000000000≤z∧z≤1000000000000000000
instance (z:Int):Decidable (OnG z):=by unfold OnG;infer_instance
theorem Tt (w:World) (bx ox:Nat) (x:Int) (hx:IntAt w bx ox x) :
  Calls Tryz.prog 237 #[.pointer (some ⟨bx,ox,none⟩)] w fun e w'=>e=.returned (.tuple #[.int .i64 (if OnG x then x else 0),.int .i64 (if OnG x then 0 else 4)])∧w=w':=by
 by_cases hg:OnG x
 ·have h1:-9223372036854775808≤x:=by have:=hg.1;omega
  have h2:x≤9223372036854775807:=by have:=hg.2;omega
  have hd:decide (-9223372036854775808≤x∧x≤9223372036854775807)=true:=decide_eq_true ⟨h1,h2⟩
  have g1:=hg.1
  have g2:=hg.2
  have HD:=Ac hd
  rw [if_pos hg,if_pos hg]
  clear hg hd
  go_enter Tryz.func237,Tryz.ntmps237
  go_wp2_with fail
  refine (Hg w bx ox x hx).mono ?_
  rintro e w1 ⟨⟨v,rfl,hv,_,_⟩,rfl⟩
  obtain rfl:=hv h1 h2
  rw [HD.out]
  go_wp2
  go_ret2
  exact ⟨rfl,rfl⟩
 ·rw [if_neg hg,if_neg hg]
  by_cases hi:-9223372036854775808≤x∧x≤9223372036854775807
  ·have HD:=Ac (decide_eq_true hi)
   have HI:=Ac hi
   by_cases hb:1000000000000000000<x
   ·clear hg hi
    go_enter Tryz.func237,Tryz.ntmps237
    go_wp2_with fail
    refine (Hg w bx ox x hx).mono ?_
    rintro e w1 ⟨⟨v,rfl,hv,_,_⟩,rfl⟩
    obtain rfl:=hv HI.out.1 HI.out.2
    rw [HD.out]
    go_wp2
    go_ret2
    exact ⟨rfl,rfl⟩
   ·have hb2:x < -1000000000000000000:=by unfold OnG at hg;omega
    clear hg hi
    go_enter Tryz.func237,Tryz.ntmps237
    go_wp2_with fail
    refine (Hg w bx ox x hx).mono ?_
    rintro e w1 ⟨⟨v,rfl,hv,_,_⟩,rfl⟩
    obtain rfl:=hv HI.out.1 HI.out.2
    rw [HD.out]
    go_wp2
    go_ret2
    exact ⟨rfl,rfl⟩
  ·have HD:=Ac (decide_eq_false hi)
   clear hg hi
   go_enter Tryz.func237,Tryz.ntmps237
   go_wp2_with fail
   refine (Hg w bx ox x hx).mono ?_
   rintro e w1 ⟨⟨v,rfl,hv,_,_⟩,rfl⟩
   rw [HD.out]
   go_wp2
   go_ret2
   exact ⟨rfl,rfl⟩
theorem Oj (n:Int):-1≤n.sign∧n.sign≤1:=by
 rcases Int.lt_trichotomy n 0 with h | h | h
 ·rw [Int.sign_eq_neg_one_of_neg h];omega
 ·rw [h,Int.sign_zero];omega
 ·rw [Int.sign_eq_one_of_pos h];omega
def Ja (n d:Int):Int :=
 if d<2*((n.tmod d).natAbs:Int)∨(2*((n.tmod d).natAbs:Int)=d∧(n.tdiv d).natAbs % 2=1) then n.tdiv d+n.sign else n.tdiv d
set_option maxRecDepth 100000 in
theorem Ty (w:World) (bn on bd od:Nat) (n d:Int) (hn:IntAt w bn on n) (hd:IntAt w bd od d) (ln:lim n≤549755813888) (hd0:0<d) :
  Calls Tryz.prog 238 #[.pointer (some ⟨bn,on,none⟩),.pointer (some ⟨bd,od,none⟩)] w fun e w'=>∃ b,e=.returned (.pointer (some ⟨b,0,none⟩))∧IntB w' b (Ja n d)∧w.heap.size≤b∧w.grownBy w' none:=by
 have hN:=new2 w 158
 have nlt:=hn.lt
 have dlt:=hd.lt
 have hd0':d≠0:=by omega
 have lr:lim ((n.tmod d).natAbs:Int)≤lim n:=Ea (by rw [Int.natAbs_natCast,Int.natAbs_tmod];exact Nat.mod_le _ _)
 have lr':lim (n.tmod d)≤lim n:=Ea (by rw [Int.natAbs_tmod];exact Nat.mod_le _ _)
 have lq':lim (n.tdiv d)≤lim n:=Ea (D7 _ _)
 have ln2:Ja n d=if d<2*((n.tmod d).natAbs:Int)∨(2*((n.tmod d).natAbs:Int)=d∧(n.tdiv d).natAbs % 2=1) then n.tdiv d+n.sign else n.tdiv d:=rfl
 have LN:=Ac ln2
 clear ln2
 go_enter Tryz.func238,Tryz.ntmps238
 go_wp2_with fail
 generalize ((w.alloc (zint 158)).alloc (zint 158))=w1 at *
 obtain ⟨ha,hb,g1⟩:=hN
 generalize hs:w.heap.size=s at *
 refine (Kq w1 s bn on bd od (s+1) 0 n d 0 ha (hn.more g1) (hd.more g1) hb (by omega) (by omega) hd0').mono ?_
 rintro e w2 ⟨rfl,hq2,hr2,wm,hgm,hg2⟩
 have g2:=Aw (Aw g1 hgm (by omega)) hg2 (by omega)
 have hs2:s+1<w2.heap.size:=hr2.lt
 have g2a:=Af w2 (zint 158) none
 have hc:=IntB.new w2 158
 have hsa:(w2.alloc (zint 158)).heap.size=w2.heap.size+1:=by simp
 clear hgm hg2 ha hb g1
 go_wp2_with fail
 generalize hwa:w2.alloc (zint 158)=wa at *
 generalize hm:w2.heap.size=m at *
 refine (W4 wa m (s+1) 0 0 (n.tmod d) hc (hr2.more g2a).at).mono ?_
 rintro e w3 ⟨rfl,hi3,hg3⟩
 have q3:=(hq2.more g2a).other hg3 hc.plain (by omega)
 have g3:=Aw g2 (Ae (C0 g2a) hg3) (by omega)
 clear hq2 hr2 hc g2a
 go_wp2_with fail
 refine (Ge w3 m m 0 m 0 _ _ _ hi3 hi3.at hi3.at (by omega) (by omega)).mono ?_
 rintro e w4 ⟨rfl,hi4,hg4⟩
 have q4:=q3.other hg4 hi3.plain (by omega)
 have g4:=Aw g3 hg4 (by omega)
 go_wp2_with fail
 refine (P8 w4 m 0 bd od _ d hi4.at (hd.more g4)).mono ?_
 rintro e w5 ⟨rfl,nq,hw5⟩
 have g5:w.grownBy w5 none:=by rw [hw5];exact Ae g4 (Az _ _ _)
 have q5:IntB w5 s (n.tdiv d):=by rw [hw5];exact q4.more (Az _ _ _)
 have S1:-9223372036854775808≤n.sign:=by have:=Oj n;omega
 have S2:n.sign≤9223372036854775807:=by have:=Oj n;omega
 have LS:lim n.sign≤1099511627776:=by have:=Ii S1 S2;omega
 clear hw5 g4 hg4 hi4 q4 hi3 hg3 q3 g3 g2
 generalize hR:((n.tmod d).natAbs:Int)=R at *
 have hcase:d<R+R∨R+R=d∨R+R<d:=by omega
 rcases hcase with h | h | h
 ·have HC:Hid (d<2*R∨(2*R=d∧(n.tdiv d).natAbs % 2=1)):=Ac (.inl (by omega))
  rw [Int.sign_eq_one_of_pos (by omega)]
  clear h
  go_wp2_with fail
  refine (Id w5 bn on n (hn.more g5)).mono ?_
  rintro e w6 ⟨rfl,rfl⟩
  go_wp2_with fail
  refine (C3 w5 n.sign S1 S2).mono ?_
  rintro e w7 ⟨bs,rfl,hi7,hb7,hg7⟩
  have q7:=q5.more hg7
  go_wp2_with fail
  refine (Ge w7 s s 0 bs 0 (n.tdiv d) (n.tdiv d) n.sign q7 q7.at hi7.at (by omega) LS).mono ?_
  rintro e w8 ⟨rfl,hi8,hg8⟩
  go_wp2
  go_ret
  rw [LN.out,if_pos HC.out]
  exact ⟨s,rfl,hi8,by omega,Aw (Ae g5 hg7) hg8 (by omega)⟩
 ·rw [h,Int.sub_self,Int.sign_zero]
  by_cases ho:(n.tdiv d).natAbs % 2=1
  ·have HC:Hid (d<2*R∨(2*R=d∧(n.tdiv d).natAbs % 2=1)):=Ac (.inr ⟨by omega,ho⟩)
   have HO:=Ac (decide_eq_true ho)
   clear h ho
   go_wp2_with fail
   refine (P9 w5 s 0 (n.tdiv d) q5.at).mono ?_
   rintro e w6 ⟨rfl,rfl⟩
   rw [HO.out]
   go_wp2_with fail
   refine (Id w5 bn on n (hn.more g5)).mono ?_
   rintro e w6 ⟨rfl,rfl⟩
   go_wp2_with fail
   refine (C3 w5 n.sign S1 S2).mono ?_
   rintro e w7 ⟨bs,rfl,hi7,hb7,hg7⟩
   have q7:=q5.more hg7
   go_wp2_with fail
   refine (Ge w7 s s 0 bs 0 (n.tdiv d) (n.tdiv d) n.sign q7 q7.at hi7.at (by omega) LS).mono ?_
   rintro e w8 ⟨rfl,hi8,hg8⟩
   go_wp2
   go_ret
   rw [LN.out,if_pos HC.out]
   exact ⟨s,rfl,hi8,by omega,Aw (Ae g5 hg7) hg8 (by omega)⟩
  ·have HC:Hid (¬ (d<2*R∨(2*R=d∧(n.tdiv d).natAbs % 2=1))):=Ac (by omega)
   have HO:=Ac (decide_eq_false ho)
   clear h ho
   go_wp2_with fail
   refine (P9 w5 s 0 (n.tdiv d) q5.at).mono ?_
   rintro e w6 ⟨rfl,rfl⟩
   rw [HO.out]
   go_wp2
   go_ret
   rw [LN.out,if_neg HC.out]
   exact ⟨s,rfl,q5,by omega,g5⟩
 ·have HC:Hid (¬ (d<2*R∨(2*R=d∧(n.tdiv d).natAbs % 2=1))):=Ac (by omega)
  rw [Int.sign_eq_neg_one_of_neg (by omega)]
  clear h
  go_wp2
  go_ret
  rw [LN.out,if_neg HC.out]
  exact ⟨s,rfl,q5,by omega,g5⟩
end
section
open Go.RowKit
open Rat
def ratE (n1 n2:Bool) (xs ys:List Nat):Int :=
 if okI n1 n2 xs ys then (if n2=true∨ys=[]∨Nat.gcd (val 4294967296 xs) (val 4294967296 ys)≠1 then 20 else 0) else 10
theorem Qo (G:Nat):(digs (G:Int)).length=1→∃ d,digs (G:Int)=[d]∧d=G:=by
 intro h
 obtain ⟨d,hd⟩:=List.length_eq_one_iff.1 h
 have:=By (G:Int)
 rw [hd] at this
 simp [val] at this
 exact ⟨d,hd,this⟩
set_option maxRecDepth 100000 in
theorem Qd (w:World) (n1 n2:Bool) (v1 v2:Value) (xs ys:List Nat) (hx:Nums w v1 xs) (hy:Nums w v2 ys) :
  Calls Tryz.prog 51 #[.agg #[.bool n1,v1,.bool n2,v2]] w fun e w'=>e=.returned (.int .i64 (ratE n1 n2 xs ys))∧w.grownBy w' none:=by
 obtain ⟨A1,m1,rfl,_,_⟩:=hx.form
 obtain ⟨A2,m2,rfl,hm2,hm2'⟩:=hy.form
 have gw:=Af w (.cells #[.bool n1,.slice A1 xs.length m1,.bool n2,.slice A2 ys.length m2] 94) none
 have hB:=Blk.new w #[.bool n1,.slice A1 xs.length m1,.bool n2,.slice A2 ys.length m2] 94
 have hx1:=hx.more gw
 have hy1:=hy.more gw
 have hE:ratE n1 n2 xs ys=if okI n1 n2 xs ys then (if n2=true∨ys=[]∨Nat.gcd (val 4294967296 xs) (val 4294967296 ys)≠1 then 20 else 0) else 10:=rfl
 have HE:=Ac hE
 clear hE
 obtain ⟨b0,b1,b2,b3,_⟩:=hB.four
 generalize hny:ys.length=ny at *
 have HNY:=Ac hny
 have HHY:=Ac hy1
 have HHX:=Ac hx1
 clear hny hx hy
 go_enter Tryz.func51,Tryz.ntmps51
 go_wp2_with fail
 generalize w.alloc (.cells #[.bool n1,.slice A1 xs.length m1,.bool n2,.slice A2 ny m2] 94)=wa at *
 generalize hs:w.heap.size=s at *
 refine (Db wa n1 _ xs HHX.out).mono ?_
 rintro e w1 ⟨rfl,hg⟩
 by_cases hk1:IntOK n1 xs
 ·have HK1:=Ac hk1
  rw [if_pos hk1]
  clear hk1
  have c0:=Aj hg b0 (by simp)
  have c1:=Aj hg b1 (by simp)
  have c2:=Aj hg b2 (by simp)
  have c3:=Aj hg b3 (by simp)
  clear hB b0 b1 b2 b3 hx1 hy1
  go_wp2_with fail
  refine (Db w1 n2 _ ys (HHY.out.more hg)).mono ?_
  rintro e w2 ⟨rfl,hg2⟩
  by_cases hk2:IntOK n2 ys
  ·have HOK:Hid (okI n1 n2 xs ys):=Ac ⟨HK1.out,hk2⟩
   rw [if_pos hk2]
   clear hk2
   have d0:=Aj hg2 c0 (by simp)
   have d1:=Aj hg2 c1 (by simp)
   have d2:=Aj hg2 c2 (by simp)
   have d3:=Aj hg2 c3 (by simp)
   have g2:=Ae hg hg2
   clear c0 c1 c2 c3 hg hg2
   cases n2 with
   | true =>
    go_wp2
    go_ret
    rw [HE.out,if_pos HOK.out,if_pos (by simp)]
    exact ⟨rfl,Ae gw g2⟩
   | false =>
    by_cases h0:ny=0
    ·subst h0
     go_wp2
     go_ret
     rw [HE.out,if_pos HOK.out,if_pos (.inr (.inl (List.eq_nil_of_length_eq_zero (by rw [HNY.out]))))]
     exact ⟨rfl,Ae gw g2⟩
    ·have hne:Hid (ys≠[]):=Ac (fun e=>h0 (by have:=HNY.out;rw [e] at this;simpa using this.symm))
     have t0:((ny:Int)==0)=false:=by rw [beq_eq_false_iff_ne];omega
     clear h0
     go_wp2_with fail
     refine (Tv w2 n1 false _ _ xs ys (HHX.out.more g2) (HHY.out.more g2)).mono ?_
     rintro e w3 ⟨sl,rfl,hn3,hf3,hg3⟩
     rw [if_pos HOK.out] at hn3
     rw [if_pos HOK.out]
     have g3:=Ae gw (Ae g2 hg3)
     obtain ⟨G,hG⟩:∃ G,Nat.gcd (val 4294967296 xs) (val 4294967296 ys)=G:=⟨_,rfl⟩
     rw [hG] at hn3
     have HG:=Ac hG
     clear hG g2 d0 d1 d2 d3 hg3
     obtain ⟨A3,m3,rfl,hA1,hA2,hA3⟩:=hn3.read
     by_cases hl1:(digs (G:Int)).length=1
     ·obtain ⟨dg,hdg,hdG⟩:=Qo G hl1
      obtain ⟨b,o,rfl,hc⟩:=hA3 (by omega)
      have hc0:=hc 0 (by omega)
      rw [hdg] at hc0
      simp only [List.getElem?_cons_zero,Option.getD_some,Nat.add_zero] at hc0
      subst hdG
      have hal:=Aj (Af w3 (.cells #[.bool false,.slice (some ⟨b,o,none⟩) (digs (dg:Int)).length m3] 49) none) hc0 (by simp)
      rw [hl1] at hal ⊢
      have gf:=Ae g3 (Af w3 (.cells #[.bool false,.slice (some ⟨b,o,none⟩) 1 m3] 49) none)
      have hd32:dg<4294967296:=by have:=Vl (dg:Int) dg (by rw [hdg];simp);exact this
      clear hc hA3 hn3 hdg hl1
      by_cases h1:dg=1
      ·have HX:Hid (¬ (false=true∨ys=[]∨Nat.gcd (val 4294967296 xs) (val 4294967296 ys)≠1)):=Ac (by have:=hne.out;have:=HG.out;simp_all)
       subst h1
       go_wp2
       go_ret
       rw [HE.out,if_pos HOK.out,if_neg HX.out]
       exact ⟨rfl,gf⟩
      ·have HX:Hid (false=true∨ys=[]∨Nat.gcd (val 4294967296 xs) (val 4294967296 ys)≠1):=Ac (by have:=hne.out;have:=HG.out;simp_all)
       have t1:((dg:Int)==1)=false:=by rw [beq_eq_false_iff_ne];omega
       clear h1
       go_wp2
       go_ret
       rw [HE.out,if_pos HOK.out,if_pos HX.out]
       exact ⟨rfl,gf⟩
     ·have HX:Hid (false=true∨ys=[]∨Nat.gcd (val 4294967296 xs) (val 4294967296 ys)≠1):=Ac (.inr (.inr (by rw [HG.out];intro e;apply hl1;rw [e];decide)))
      have t1:(((digs (G:Int)).length:Int)==1)=false:=by rw [beq_eq_false_iff_ne];omega
      have gf:=Ae g3 (Af w3 (.cells #[.bool false,.slice A3 (digs (G:Int)).length m3] 49) none)
      clear hl1 hA3 hn3
      generalize (digs (G:Int)).length=lg at *
      have t2:¬ ((lg:Int)=1):=by simpa using t1
      have t3:((lg:Int) != 1)=true:=by simpa using t1
      clear t1
      go_wp2
      go_ret
      rw [HE.out,if_pos HOK.out,if_pos HX.out]
      exact ⟨rfl,gf⟩
  ·have hno:¬ okI n1 n2 xs ys:=fun h=>hk2 h.2
   have HNO:=Ac hno
   rw [if_neg hk2]
   clear hk2 hno
   go_wp2
   go_ret
   rw [HE.out,if_neg HNO.out]
   exact ⟨rfl,Ae gw (Ae hg hg2)⟩
 ·have hno:¬ okI n1 n2 xs ys:=fun h=>hk1 h.1
  have HNO:=Ac hno
  rw [if_neg hk1]
  clear hk1 hno
  go_wp2
  go_ret
  rw [HE.out,if_neg HNO.out]
  exact ⟨rfl,Ae gw hg⟩
end
section
open Go.RowKit
open Rat
def Of (n1 n2:Bool) (xs ys:List Nat):Int :=
 if ratE n1 n2 xs ys=0 then (if OnG (Ja (sg n1 (val 4294967296 xs)) (sg n2 (val 4294967296 ys))) then Ja (sg n1 (val 4294967296 xs)) (sg n2 (val 4294967296 ys)) else 0) else 0
def Oe (n1 n2:Bool) (xs ys:List Nat):Int :=
 if ratE n1 n2 xs ys=0 then (if OnG (Ja (sg n1 (val 4294967296 xs)) (sg n2 (val 4294967296 ys))) then 0 else 4) else ratE n1 n2 xs ys
theorem Qx {n1 n2:Bool} {xs ys:List Nat} (h:ratE n1 n2 xs ys=0):okI n1 n2 xs ys∧n2=false∧ys≠[]∧Nat.gcd (val 4294967296 xs) (val 4294967296 ys)=1:=by
 unfold ratE at h
 by_cases h1:okI n1 n2 xs ys
 ·rw [if_pos h1] at h
  by_cases h2:n2=true∨ys=[]∨Nat.gcd (val 4294967296 xs) (val 4294967296 ys)≠1
  ·rw [if_pos h2] at h;omega
  ·refine ⟨h1,?_,fun e=>h2 (.inr (.inl e)),Classical.byContradiction fun e=>h2 (.inr (.inr e))⟩
   cases n2
   ·rfl
   ·exact absurd (.inl rfl) h2
 ·rw [if_neg h1] at h;omega
theorem Zl {n1 n2:Bool} {xs ys:List Nat} (h:ratE n1 n2 xs ys=0):0<sg n2 (val 4294967296 ys):=by
 obtain ⟨h1,rfl,h3,_⟩:=Qx h
 have:=I4 4294967296 (by omega) ys h1.2.2.1 h3
 simp [sg]
 omega
set_option maxRecDepth 100000 in
theorem Rq (w:World) (n1 n2:Bool) (v1 v2:Value) (xs ys:List Nat) (hx:Nums w v1 xs) (hy:Nums w v2 ys) :
    Calls Tryz.prog 166 #[.agg #[.bool n1,v1,.bool n2,v2]] w fun e w'=>e=.returned (.tuple #[.int .i64 (Of n1 n2 xs ys),.int .i64 (Oe n1 n2 xs ys)])∧w.grownBy w' none:=by
  obtain ⟨A1,m1,c1,rfl⟩:=hx.ctor
  obtain ⟨A2,m2,c2,rfl⟩:=hy.ctor
  have gw:=Af w (.cells #[.bool n1,.slice A1 m1 c1,.bool n2,.slice A2 m2 c2] 94) none
  have hB:=Blk.new w #[.bool n1,.slice A1 m1 c1,.bool n2,.slice A2 m2 c2] 94
  have hx1:=hx.more gw
  have hy1:=hy.more gw
  have K:∀ w',(w.alloc (.cells #[.bool n1,.slice A1 m1 c1,.bool n2,.slice A2 m2 c2] 94)).grownBy w' none→w'.cell? ⟨w.heap.size,0,none⟩=some (.bool n1)∧w'.cell? ⟨w.heap.size,1,none⟩=some (.slice A1 m1 c1)∧w'.cell? ⟨w.heap.size,2,none⟩=some (.bool n2)∧w'.cell? ⟨w.heap.size,3,none⟩=some (.slice A2 m2 c2):=fun w' h=>⟨(hB.more h).cell 0,(hB.more h).cell 1,(hB.more h).cell 2,(hB.more h).cell 3⟩
  have HV:=Ac (show Of n1 n2 xs ys=_ from rfl)
  have HE:=Ac (show Oe n1 n2 xs ys=_ from rfl)
  go_enter Tryz.func166,Tryz.ntmps166
  go_wp2_with fail
  generalize w.alloc (.cells #[.bool n1,.slice A1 m1 c1,.bool n2,.slice A2 m2 c2] 94)=wa at *
  generalize hs:w.heap.size=s at *
  refine (Qd wa n1 n2 _ _ xs ys hx1 hy1).mono ?_
  rintro e w1 ⟨rfl,hg⟩
  by_cases h0:ratE n1 n2 xs ys=0
  · have lx:=(Qx h0).1.1.1
    have ly:=(Qx h0).1.2.1
    have hpos:=Zl h0
    have L1:lim (sg n1 (val 4294967296 xs))≤72:=Nat.le_trans (Ij hx.2) lx
    have HP:=Ac hpos
    have hV:Of n1 n2 xs ys=(if OnG (Ja (sg n1 (val 4294967296 xs)) (sg n2 (val 4294967296 ys))) then Ja (sg n1 (val 4294967296 xs)) (sg n2 (val 4294967296 ys)) else 0):=if_pos h0
    have hE:Oe n1 n2 xs ys=(if OnG (Ja (sg n1 (val 4294967296 xs)) (sg n2 (val 4294967296 ys))) then 0 else 4):=if_pos h0
    rw [h0]
    obtain ⟨V,hVV⟩:∃ V,(if OnG (Ja (sg n1 (val 4294967296 xs)) (sg n2 (val 4294967296 ys))) then Ja (sg n1 (val 4294967296 xs)) (sg n2 (val 4294967296 ys)) else 0)=V:=⟨_,rfl⟩
    obtain ⟨E,hEE⟩:∃ E:Int,(if OnG (Ja (sg n1 (val 4294967296 xs)) (sg n2 (val 4294967296 ys))) then (0:Int) else 4)=E:=⟨_,rfl⟩
    rw [hVV] at hV
    rw [hEE] at hE
    have RV:=Ac hV
    have RE:=Ac hE
    have RVV:=Ac hVV
    have REE:=Ac hEE
    clear hVV hEE
    have hx2:=hx1.more hg
    have hy2:=hy1.more hg
    have K1:∀ w',w1.grownBy w' none→w'.cell? ⟨s,0,none⟩=some (.bool n1)∧w'.cell? ⟨s,1,none⟩=some (.slice A1 m1 c1)∧w'.cell? ⟨s,2,none⟩=some (.bool n2)∧w'.cell? ⟨s,3,none⟩=some (.slice A2 m2 c2):=fun w' h=>K w' (Ae hg h)
    obtain ⟨k0,k1,k2,k3⟩:=K1 w1 (Al _ _)
    have HK:=Ac K1
    clear h0 hpos hV hE K K1 hB hx hy hx1 hy1 HV HE
    go_wp2_with fail
    go_region_held3 (fun w'=>w'.cell? ⟨s,0,none⟩=some (.bool n1)∧w'.cell? ⟨s,1,none⟩=some (.slice A1 m1 c1)∧w'.cell? ⟨s,2,none⟩=some (.bool n2)∧w'.cell? ⟨s,3,none⟩=some (.slice A2 m2 c2)) ((refine HK.out _ ?_;(focus ((repeat (first | assumption | exact Al _ _ | exact Ai _ _ | exact Af _ _ _ | refine Ae ?_ (Af _ _ _) | refine Ae ?_ (Ai _ _) | refine Ae ?_ (by assumption)));done))))
     (first
     | (go_at_call_of 71 (Value.agg #[.bool n1,.slice A1 m1 c1]);refine (Dn _ n1 _ xs (hx2.more (by (focus ((repeat (first | assumption | exact Al _ _ | exact Ai _ _ | exact Af _ _ _ | refine Ae ?_ (Af _ _ _) | refine Ae ?_ (Ai _ _) | refine Ae ?_ (by assumption)));done)))) (by omega)).mono ?_;rintro e w2 ⟨bb2,rfl,hi2,hb2,hg2⟩)
     | (go_at_call 71;refine (Dn _ n2 _ ys (hy2.more (by (focus ((repeat (first | assumption | exact Al _ _ | exact Ai _ _ | exact Af _ _ _ | refine Ae ?_ (Af _ _ _) | refine Ae ?_ (Ai _ _) | refine Ae ?_ (by assumption)));done)))) (by omega)).mono ?_;rintro e w3 ⟨bb3,rfl,hi3,hb3,hg3⟩)
     | (go_at_call 238;refine (Ty _ bb2 0 bb3 0 _ _ (hi2.at.more (by (focus ((repeat (first | assumption | exact Al _ _ | exact Ai _ _ | exact Af _ _ _ | refine Ae ?_ (Af _ _ _) | refine Ae ?_ (Ai _ _) | refine Ae ?_ (by assumption)));done)))) (hi3.at.more (by (focus ((repeat (first | assumption | exact Al _ _ | exact Ai _ _ | exact Af _ _ _ | refine Ae ?_ (Af _ _ _) | refine Ae ?_ (Ai _ _) | refine Ae ?_ (by assumption)));done)))) (by omega) HP.out).mono ?_;rintro e w4 ⟨bb4,rfl,hi4,hb4,hg4⟩)
     | (go_at_call 237;refine (Tt _ bb4 0 _ hi4.at).mono ?_;rintro e w5 ⟨rfl,rfl⟩;rw [RVV.out,REE.out]))
    all_goals
      go_wp2
      go_ret2
      rw [RV.out,RE.out]
      exact ⟨rfl,Ae gw (Ae hg (by (focus ((repeat (first | assumption | exact Al _ _ | exact Ai _ _ | exact Af _ _ _ | refine Ae ?_ (Af _ _ _) | refine Ae ?_ (Ai _ _) | refine Ae ?_ (by assumption)));done))))⟩
  · have hV:Of n1 n2 xs ys=0:=if_neg h0
    have hE:Oe n1 n2 xs ys=ratE n1 n2 xs ys:=if_neg h0
    have RV:=Ac hV
    have RE:=Ac hE
    clear HV HE hV hE
    generalize ratE n1 n2 xs ys=r at *
    have t0:(r==0)=false:=by rw [beq_eq_false_iff_ne];exact h0
    go_wp2
    go_ret2
    rw [RV.out,RE.out]
    exact ⟨rfl,Ae gw hg⟩
end
section
open Go.RowKit
open Rat
def NumOK (m e:Int):Prop:=(m=0∧e=0)∨(m≠0∧-999999999≤m∧m≤999999999∧m.tmod 10≠0∧-18≤e∧e≤9)
instance (m e:Int):Decidable (NumOK m e):=by unfold NumOK;infer_instance
set_option maxRecDepth 100000 in
theorem Bd (w:World) (m e:Int) (hm1:-9223372036854775808≤m) (hm2:m≤9223372036854775807) (he1:-9223372036854775808≤e) (he2:e≤9223372036854775807) :
  Calls Tryz.prog 131 #[.agg #[.int .i64 m,.int .i64 e]] w fun o w'=>o=.returned (.bool (decide (NumOK m e)))∧w.grownBy w' none:=by
 have gw:=Af w (.cells #[.int .i64 m,.int .i64 e] 25) none
 have hB:=Blk.new w #[.int .i64 m,.int .i64 e] 25
 obtain ⟨b0,b1,_⟩:=hB.two
 clear hB
 by_cases h0:m=0
 ·subst h0
  have hr:decide (NumOK 0 e)=decide (e=0):=by rw [decide_eq_decide];unfold NumOK;omega
  have HR:=Ac hr
  clear hr
  go_enter Tryz.func131,Tryz.ntmps131
  go_wp2
  go_ret
  rw [HR.out]
  exact ⟨Ao (by by_cases he:e=0<;>simp [he]),gw⟩
 ·have t0:(m==0)=false:=by rw [beq_eq_false_iff_ne];exact h0
  have hr:decide (NumOK m e)=(decide (-999999999≤m)&&decide (m≤999999999)&&decide (m.tmod 10≠0)&&decide (-18≤e)&&decide (e≤9)):=by
   rw [Bool.eq_iff_iff];simp [NumOK,h0,and_assoc]
  have HR:=Ac hr
  clear h0 hr
  go_enter Tryz.func131,Tryz.ntmps131
  go_wp2
  all_goals
   go_ret
   refine ⟨?_,gw⟩
   rw [HR.out]
   generalize m.tmod 10=r at *
   refine Ao ?_
   rw [Bool.eq_iff_iff]
   simp
   try omega
end
end Go.Proofs.YtckbiimikeiejaaGreatDoor
