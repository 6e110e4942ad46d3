/- StN. -/
import Derived.Test.YtmfmfpmkgmkgiaaGreatDoorMat
import Derived.Deep.DeepCutAuto
set_option linter.unusedVariables false
set_option linter.unusedSimpArgs false
set_option maxHeartbeats 40000000
namespace Go.Proofs.YtmfmfpmkgmkgiaaGreatDoor
section
open Go.RowKit Go.Maps
open Rat
theorem PenS.other {W0 w w':World} {pb:Nat} {d:DevP} {An Av As Ag Am:Option Addr} {cn cv cs cg cm:Nat} {br:List Int} {k:Int} {L:List StampP} (h:PenS W0 w pb d An cn Av cv As cs Ag cg Am cm br k L) {y:Nat} {q:Rat} (hy:RatB w y q) (hg:w.grownBy w' (some y)) (hb:W0.heap.size≤y):PenS W0 w' pb d An cn Av cv As cs Ag cg Am cm br k L:=by
 obtain ⟨Ab,nb,cb,lv,xs,hbr,hblk,hown,hst,hne⟩:=h.pen
 exact ⟨h.base,Aw h.grown hg hb,h.dev,Ab,nb,cb,lv,xs,hbr,hblk.row hg (fun e=>by injection e with e;exact hy.ne_blk hblk (by simp) e),hown.other hg (fun e=>hy.ne_own hown _ e rfl),hst.imp fun cs s hs=>hs.other hg hy.plain,hne⟩
theorem Keeps.other {a m b c:World} (h1:Keeps a m) (h2:m.grownBy b none) {y:Nat} {q:Rat} (hy:m.heap.size≤y) (hp:RatB b y q) (hg:b.grownBy c (some y)):Keeps a c :=
 ⟨fun x q hx=>by have h3:=h1.1 x q hx;exact (h3.more h2).other hg hp.plain (by have:=h3.lt;omega),fun x cs h4 hx=>by have h3:=h1.2.1 x cs h4 hx;exact (h3.more h2).row hg (fun e=>by injection e with e;have:=h3.lt;omega),fun v xs hx=>((h1.2.2 v xs hx).more h2).other hg hp.plain⟩
set_option maxRecDepth 100000 in
theorem Zt (W0 w:World) (pb:Nat) (d:DevP) (An:Option Addr) (cn:Nat) (Av:Option Addr) (cv:Nat) (As:Option Addr) (cs:Nat) (Ag:Option Addr) (cg:Nat) (Am:Option Addr) (cm:Nat) (br:List Int) (k:Int) (L:List StampP) (h:PenS W0 w pb d An cn Av cv As cs Ag cg Am cm br k L) (hn:NodesOK d) (h2:2≤d.nodes.length) (hkd:d.kind=99∨d.kind=108) (hL:L.length≤1000) (hk0:0≤k) (hk1:k.toNat<br.length) (ij:I64 (br.getD k.toNat 0)) (method t1 t2:Int) (Y:Rat) :
  Calls Tryz.prog 161 #[.pointer (some ⟨pb,0,none⟩),.agg #[.int .i64 1,.int .i64 method,.int .i64 t1,.int .i64 t2]] w fun e w'=>e=.returned (.tuple #[])∧Hid (PenS W0 w' pb d An cn Av cv As cs Ag cg Am cm br k (L++D8 (decide (d.kind=99)) (d.at 0) (d.at 1) (br.getD k.toNat 0) 1 method Y)∧Keeps w w'):=by
 by_cases hc:d.kind=99
 ·have tk:(d.kind==99)=true:=by rw [beq_iff_eq];exact hc
  rw [decide_eq_true hc]
  clear hkd hc
  have HGW:=Ac (Keeps.more (Af w (.cells #[.int .i64 1,.int .i64 method,.int .i64 t1,.int .i64 t2] 29) none))
  have HSB:=Ac (Blk.new w #[.int .i64 1,.int .i64 method,.int .i64 t1,.int .i64 t2] 29)
  have HP:=Ac (h.more (Af w (.cells #[.int .i64 1,.int .i64 method,.int .i64 t1,.int .i64 t2] 29) none))
  have HN:=Ac hn
  have HI:=Ac (fun i=>hn.i64 i)
  have HJ:=Ac ij
  have HOWN:=Ac (fun w' L' (h':PenS W0 w' pb d An cn Av cv As cs Ag cg Am cm br k L')=>Da W0 w' pb d An cn Av cv As cs Ag cg Am cm br k L' h' hk0 hk1)
  have HOUT:=Ac (fun w' L' (h':PenS W0 w' pb d An cn Av cv As cs Ag cg Am cm br k L') (hl:L'.length≤1000000)=>Dz W0 w' pb d An cn Av cv As cs Ag cg Am cm br k L' h' hn h2 hk0 hk1 ij hl)
  have HACR:=Ac (fun w' L' (h':PenS W0 w' pb d An cn Av cv As cs Ag cg Am cm br k L') (hl:L'.length≤1000000)=>Cv W0 w' pb d An cn Av cv As cs Ag cg Am cm br k L' h' hn h2 hk0 hk1 ij hl)
  clear h hn ij
  generalize br.getD k.toNat 0=J at *
  have l1:=Eb (d.at 0) (d.at 1) J
  have l2:=Cw (d.at 0) (d.at 1) J
  go_enter Tryz.func161,Tryz.ntmps161
  go_wp2_with fail
  generalize w.alloc (.cells #[.int .i64 1,.int .i64 method,.int .i64 t1,.int .i64 t2] 29)=wa at *
  generalize w.heap.size=s at *
  refine (HOUT.out wa _ HP.out (by omega)).mono ?_
  rintro e w1 ⟨rfl,h1⟩
  have HP:=Ac h1.out.1
  have HK:=Ac h1.out.2
  clear h1
  go_wp2_with fail
  refine (HOWN.out w1 _ HP.out).mono ?_
  rintro e w2 ⟨rfl,hgn⟩
  have HP:=Ac (HP.out.more hgn)
  have HK:=Ac (HK.out.trans (Keeps.more hgn))
  clear hgn
  obtain ⟨c0,c4,c5,c14⟩:=HP.out.cells
  obtain ⟨r0,r1,r2,r3,_⟩:=(HK.out.four HSB.out).four
  have HFIN:Hid (L++outL (d.at 0) (d.at 1) J++put1 1 J J 1=L++D8 true (d.at 0) (d.at 1) J 1 method Y):=Ac (by simp [D8,List.append_assoc])
  go_wp2_with fail
  refine (D6 w2).mono ?_
  rintro e w3 ⟨ob,rfl,hob,hgn⟩
  have HP:=Ac (HP.out.more hgn)
  have HK:=Ac (HK.out.trans (Keeps.more hgn))
  have HOB:=Ac hob
  clear hob hgn
  go_wp2_with fail
  refine (Cg W0 w3 pb d An cn Av cv As cs Ag cg Am cm br k _ HP.out J J HJ.out HJ.out ob 1 HOB.out Dd (by rw [List.length_append];omega)).mono ?_
  rintro e w4 ⟨rfl,h1⟩
  go_wp2_with fail
  try simp only [Exit.inBlock,Exit.then]
  refine bodyPost_ret (results_none rfl _ _ _) rfl ?_
  exact ⟨rfl,Ac ⟨by rw [←HFIN.out];exact h1.out.1,HGW.out.trans (HK.out.trans h1.out.2)⟩⟩
 ·have tk:(d.kind==99)=false:=by rw [beq_eq_false_iff_ne];exact hc
  rw [decide_eq_false hc]
  clear hkd hc
  have HGW:=Ac (Keeps.more (Af w (.cells #[.int .i64 1,.int .i64 method,.int .i64 t1,.int .i64 t2] 29) none))
  have HSB:=Ac (Blk.new w #[.int .i64 1,.int .i64 method,.int .i64 t1,.int .i64 t2] 29)
  have HP:=Ac (h.more (Af w (.cells #[.int .i64 1,.int .i64 method,.int .i64 t1,.int .i64 t2] 29) none))
  have HN:=Ac hn
  have HI:=Ac (fun i=>hn.i64 i)
  have HJ:=Ac ij
  have HOWN:=Ac (fun w' L' (h':PenS W0 w' pb d An cn Av cv As cs Ag cg Am cm br k L')=>Da W0 w' pb d An cn Av cv As cs Ag cg Am cm br k L' h' hk0 hk1)
  have HOUT:=Ac (fun w' L' (h':PenS W0 w' pb d An cn Av cv As cs Ag cg Am cm br k L') (hl:L'.length≤1000000)=>Dz W0 w' pb d An cn Av cv As cs Ag cg Am cm br k L' h' hn h2 hk0 hk1 ij hl)
  have HACR:=Ac (fun w' L' (h':PenS W0 w' pb d An cn Av cv As cs Ag cg Am cm br k L') (hl:L'.length≤1000000)=>Cv W0 w' pb d An cn Av cv As cs Ag cg Am cm br k L' h' hn h2 hk0 hk1 ij hl)
  clear h hn ij
  generalize br.getD k.toNat 0=J at *
  have l1:=Eb (d.at 0) (d.at 1) J
  have l2:=Cw (d.at 0) (d.at 1) J
  go_enter Tryz.func161,Tryz.ntmps161
  go_wp2_with fail
  generalize w.alloc (.cells #[.int .i64 1,.int .i64 method,.int .i64 t1,.int .i64 t2] 29)=wa at *
  generalize w.heap.size=s at *
  refine (HOUT.out wa _ HP.out (by omega)).mono ?_
  rintro e w1 ⟨rfl,h1⟩
  have HP:=Ac h1.out.1
  have HK:=Ac h1.out.2
  clear h1
  go_wp2_with fail
  refine (HOWN.out w1 _ HP.out).mono ?_
  rintro e w2 ⟨rfl,hgn⟩
  have HP:=Ac (HP.out.more hgn)
  have HK:=Ac (HK.out.trans (Keeps.more hgn))
  clear hgn
  obtain ⟨c0,c4,c5,c14⟩:=HP.out.cells
  obtain ⟨r0,r1,r2,r3,_⟩:=(HK.out.four HSB.out).four
  have HFIN:Hid (L++outL (d.at 0) (d.at 1) J++Bw (d.at 0) (d.at 1) J=L++D8 false (d.at 0) (d.at 1) J 1 method Y):=Ac (by simp [D8,List.append_assoc])
  go_wp2_with fail
  refine (HACR.out w2 _ HP.out (by rw [List.length_append];omega)).mono ?_
  rintro e w3 ⟨rfl,h1⟩
  have HP:=Ac h1.out.1
  have HK:=Ac (HK.out.trans h1.out.2)
  obtain ⟨r0,r1,r2,r3,_⟩:=(HK.out.four HSB.out).four
  clear h1
  go_wp2_with fail
  try simp only [Exit.inBlock,Exit.then]
  refine bodyPost_ret (results_none rfl _ _ _) rfl ?_
  exact ⟨rfl,Ac ⟨by rw [←HFIN.out];exact HP.out,HGW.out.trans HK.out⟩⟩
set_option maxRecDepth 100000 in
theorem Zp (W0 w:World) (pb:Nat) (d:DevP) (An:Option Addr) (cn:Nat) (Av:Option Addr) (cv:Nat) (As:Option Addr) (cs:Nat) (Ag:Option Addr) (cg:Nat) (Am:Option Addr) (cm:Nat) (br:List Int) (k:Int) (L:List StampP) (h:PenS W0 w pb d An cn Av cv As cs Ag cg Am cm br k L) (hn:NodesOK d) (h2:2≤d.nodes.length) (hkd:d.kind=99) (hv:NumOK d.val.1 d.val.2) (hL:L.length≤1000) (hk0:0≤k) (hk1:k.toNat<br.length) (ij:I64 (br.getD k.toNat 0)) (t1 t2:Int) (ht:NumOK t1 t2) (ht0:t1≠0) (lq:LimQ (numQ d.val.1 d.val.2/numQ t1 t2) 1099511627776) :
    Calls Tryz.prog 161 #[.pointer (some ⟨pb,0,none⟩),.agg #[.int .i64 2,.int .i64 1,.int .i64 t1,.int .i64 t2]] w fun e w'=>e=.returned (.tuple #[])∧Hid (PenS W0 w' pb d An cn Av cv As cs Ag cg Am cm br k (L++D8 true (d.at 0) (d.at 1) (br.getD k.toNat 0) 2 1 (numQ d.val.1 d.val.2/numQ t1 t2))∧Keeps w w'):=by
  have tk:(d.kind==99)=true:=by rw [beq_iff_eq];omega
  have HV:=Ac hv
  have HT:=Ac ht
  have HT0:=Ac (Er ht ht0)
  have HL1:=Ac (Ba hv)
  have HL2:=Ac (Ba ht)
  have HLQ:=Ac (LimQ.quo HL1.out HL2.out HT0.out)
  obtain ⟨Y,hY⟩:∃ Y:Rat,numQ d.val.1 d.val.2/numQ t1 t2=Y:=⟨_,rfl⟩
  have HQY:=Ac hY
  have HLY:=Ac lq
  rw [hY] at HLY ⊢
  have HLN:=Ac HLY.out.neg
  clear hv ht ht0 hY lq hkd
  have HGW:=Ac (Keeps.more (Af w (.cells #[.int .i64 2,.int .i64 1,.int .i64 t1,.int .i64 t2] 29) none))
  have HSB:=Ac (Blk.new w #[.int .i64 2,.int .i64 1,.int .i64 t1,.int .i64 t2] 29)
  have HP:=Ac (h.more (Af w (.cells #[.int .i64 2,.int .i64 1,.int .i64 t1,.int .i64 t2] 29) none))
  have HN:=Ac hn
  have HI:=Ac (fun i=>hn.i64 i)
  have HJ:=Ac ij
  have HOWN:=Ac (fun w' L' (h':PenS W0 w' pb d An cn Av cv As cs Ag cg Am cm br k L')=>Da W0 w' pb d An cn Av cv As cs Ag cg Am cm br k L' h' hk0 hk1)
  have HOUT:=Ac (fun w' L' (h':PenS W0 w' pb d An cn Av cv As cs Ag cg Am cm br k L') (hl:L'.length≤1000000)=>Dz W0 w' pb d An cn Av cv As cs Ag cg Am cm br k L' h' hn h2 hk0 hk1 ij hl)
  have HACR:=Ac (fun w' L' (h':PenS W0 w' pb d An cn Av cv As cs Ag cg Am cm br k L') (hl:L'.length≤1000000)=>Cv W0 w' pb d An cn Av cv As cs Ag cg Am cm br k L' h' hn h2 hk0 hk1 ij hl)
  clear h hn ij
  generalize br.getD k.toNat 0=J at *
  have l1:=Eb (d.at 0) (d.at 1) J
  have l2:=Cw (d.at 0) (d.at 1) J
  go_enter Tryz.func161,Tryz.ntmps161
  go_wp2_with fail
  generalize w.alloc (.cells #[.int .i64 2,.int .i64 1,.int .i64 t1,.int .i64 t2] 29)=wa at *
  generalize w.heap.size=s at *
  refine (HOUT.out wa _ HP.out (by omega)).mono ?_
  rintro e w1 ⟨rfl,h1⟩
  have HP:=Ac h1.out.1
  have HK:=Ac h1.out.2
  clear h1
  go_wp2_with fail
  refine (HOWN.out w1 _ HP.out).mono ?_
  rintro e w2 ⟨rfl,hgn⟩
  have HP:=Ac (HP.out.more hgn)
  have HK:=Ac (HK.out.trans (Keeps.more hgn))
  clear hgn
  obtain ⟨c0,c4,c5,c14⟩:=HP.out.cells
  obtain ⟨r0,r1,r2,r3,_⟩:=(HK.out.four HSB.out).four
  have p0:=Ch 1 J J 1
  have p1:=Ch 1 J (d.at 0) (-Y)
  have p2:=Ch 1 J (d.at 1) Y
  have p3:=Ch 2 J (d.at 0) (-Y)
  have HFIN:Hid (L++outL (d.at 0) (d.at 1) J++put1 1 J J 1++put1 1 J (d.at 0) (-Y)++put1 1 J (d.at 1) Y++put1 2 J (d.at 0) (-Y)++put1 2 J (d.at 1) Y=L++D8 true (d.at 0) (d.at 1) J 2 1 Y):=Ac (by simp [D8,List.append_assoc])
  have HCW:=Ac (fun w' (h:World.grownBy w2 w' none)=>And.intro (Aj h c4 (by simp)) (And.intro (Aj h c5 (by simp)) (And.intro (Aj h r2 (by simp)) (Aj h r3 (by simp)))))
  go_upto_region 9 with (fail)
  go_cut [6] (fun y wx=>∃ yb,y=.pointer (some ⟨yb,0,none⟩)∧(w2).heap.size≤yb∧(w2).grownBy wx none∧Hid (RatB wx yb (numQ d.val.1 d.val.2/numQ t1 t2)))
  case first =>
   as_aux_lemma =>
    go_region_held3 (fun w'=>w'.cell? ⟨pb,4,none⟩=some (.int .i64 d.val.1)∧w'.cell? ⟨pb,5,none⟩=some (.int .i64 d.val.2)∧w'.cell? ⟨s,2,none⟩=some (.int .i64 t1)∧w'.cell? ⟨s,3,none⟩=some (.int .i64 t2)) ((refine HCW.out _ ?_;(focus ((repeat (first | assumption | exact Al _ _ | exact Ai _ _ | exact Af _ _ _ | refine Ae ?_ (Af _ _ _) | refine Ae ?_ (Ai _ _) | refine Ae ?_ (by assumption)));done))))
     (first
     | (go_at_call_of 149 (Value.agg #[.int .i64 d.val.1,.int .i64 d.val.2]);refine (Bh _ d.val.1 d.val.2 HV.out).mono ?_;rintro o' w13 ⟨bb2,rfl,hi2,hb2,hg2⟩)
     | (go_at_call 149;refine (Bh _ t1 t2 HT.out).mono ?_;rintro o' w14 ⟨bb3,rfl,hi3,hb3,hg3⟩)
     | (go_at_call 204;refine (Ic _ _ bb2 bb3 0 _ _ (by first | exact (RatB.new' (w0:=(w2).drew) rfl _).more (by (focus ((repeat (first | assumption | exact Al _ _ | exact Ai _ _ | exact Af _ _ _ | refine Ae ?_ (Af _ _ _) | refine Ae ?_ (Ai _ _) | refine Ae ?_ (by assumption)));done))) | exact (RatB.new' (w0:=w13) rfl _).more (by (focus ((repeat (first | assumption | exact Al _ _ | exact Ai _ _ | exact Af _ _ _ | refine Ae ?_ (Af _ _ _) | refine Ae ?_ (Ai _ _) | refine Ae ?_ (by assumption)));done))) | exact (RatB.new' (w0:=w14) rfl _).more (by (focus ((repeat (first | assumption | exact Al _ _ | exact Ai _ _ | exact Af _ _ _ | refine Ae ?_ (Af _ _ _) | refine Ae ?_ (Ai _ _) | refine Ae ?_ (by assumption)));done)))) (hi2.more (by (focus ((repeat (first | assumption | exact Al _ _ | exact Ai _ _ | exact Af _ _ _ | refine Ae ?_ (Af _ _ _) | refine Ae ?_ (Ai _ _) | refine Ae ?_ (by assumption)));done)))) (hi3.more (by (focus ((repeat (first | assumption | exact Al _ _ | exact Ai _ _ | exact Af _ _ _ | refine Ae ?_ (Af _ _ _) | refine Ae ?_ (Ai _ _) | refine Ae ?_ (by assumption)));done)))) HT0.out 3 (by omega) HL1.out HL2.out).mono ?_;rintro o' w15 ⟨rfl,hi4,hg4⟩;have g4:=Aw (show World.grownBy w2 _ none by (focus ((repeat (first | assumption | exact Al _ _ | exact Ai _ _ | exact Af _ _ _ | refine Ae ?_ (Af _ _ _) | refine Ae ?_ (Ai _ _) | refine Ae ?_ (by assumption)));done))) hg4 (by first | exact Nat.le_refl _ | exact (show World.grownBy w2 w13 none by (focus ((repeat (first | assumption | exact Al _ _ | exact Ai _ _ | exact Af _ _ _ | refine Ae ?_ (Af _ _ _) | refine Ae ?_ (Ai _ _) | refine Ae ?_ (by assumption)));done))).size | exact (show World.grownBy w2 w14 none by (focus ((repeat (first | assumption | exact Al _ _ | exact Ai _ _ | exact Af _ _ _ | refine Ae ?_ (Af _ _ _) | refine Ae ?_ (Ai _ _) | refine Ae ?_ (by assumption)));done))).size)))
    all_goals
      go_wp2_with fail
      go_meet
      exact ⟨_,rfl,by first | exact Nat.le_refl _ | exact (show World.grownBy w2 w13 none by (focus ((repeat (first | assumption | exact Al _ _ | exact Ai _ _ | exact Af _ _ _ | refine Ae ?_ (Af _ _ _) | refine Ae ?_ (Ai _ _) | refine Ae ?_ (by assumption)));done))).size | exact (show World.grownBy w2 w14 none by (focus ((repeat (first | assumption | exact Al _ _ | exact Ai _ _ | exact Af _ _ _ | refine Ae ?_ (Af _ _ _) | refine Ae ?_ (Ai _ _) | refine Ae ?_ (by assumption)));done))).size,g4,Ac hi4⟩
  case rest =>
   as_aux_lemma =>
    obtain ⟨yb,rfl,hyb,hgy,hy⟩:=hcut
    have HP:=Ac (HP.out.more hgy)
    have HK:=Ac (HK.out.trans (Keeps.more hgy))
    have HYB:=Ac hyb
    clear hyb hgy c0 c4 c5 c14 r0 r1 r2 r3 HCW
    obtain ⟨r0,r1,r2,r3,_⟩:=(HK.out.four HSB.out).four
    have HY:=Ac hy.out
    rw [HQY.out] at HY
    clear hy
    go_wp2_with fail
    clear r0 r1 r2 r3
    refine (D6 wc).mono ?_
    rintro e w4 ⟨ob,rfl,hob,hgn⟩
    have HP:=Ac (HP.out.more hgn)
    have HK:=Ac (HK.out.trans (Keeps.more hgn))
    have HY:=Ac (HY.out.more hgn)
    have HOB:=Ac hob
    clear hob hgn
    go_wp2_with fail
    refine (Cg W0 w4 pb d An cn Av cv As cs Ag cg Am cm br k _ HP.out J J HJ.out HJ.out ob 1 HOB.out Dd (by simp only [List.length_append];omega)).mono ?_
    rintro e w5 ⟨rfl,h1⟩
    have HP:=Ac h1.out.1
    have HK:=Ac (HK.out.trans h1.out.2)
    have HY:=Ac (h1.out.2.pen HY.out)
    obtain ⟨r0,r1,r2,r3,_⟩:=(HK.out.four HSB.out).four
    clear h1
    go_wp2_with fail
    clear r0 r1 r2 r3
    clear HOB
    refine (Be W0 w5 pb d An cn Av cv As cs Ag cg Am cm br k _ HP.out HN.out 0 (by omega) (by omega)).mono ?_
    rintro e w' ⟨rfl,rfl⟩
    go_wp2_with fail
    refine (C5 w5 yb Y HY.out HLY.out).mono ?_
    rintro e w6 ⟨nb',rfl,hnb,hgn⟩
    have HP:=Ac (HP.out.more hgn)
    have HK:=Ac (HK.out.trans (Keeps.more hgn))
    have HY:=Ac (HY.out.more hgn)
    have HNB:=Ac hnb
    clear hnb hgn
    go_wp2_with fail
    refine (Cg W0 w6 pb d An cn Av cv As cs Ag cg Am cm br k _ HP.out J (d.at 0) HJ.out (HI.out 0) nb' (-Y) HNB.out HLN.out (by simp only [List.length_append];omega)).mono ?_
    rintro e w7 ⟨rfl,h1⟩
    have HP:=Ac h1.out.1
    have HK:=Ac (HK.out.trans h1.out.2)
    have HY:=Ac (h1.out.2.pen HY.out)
    obtain ⟨r0,r1,r2,r3,_⟩:=(HK.out.four HSB.out).four
    clear h1
    go_wp2_with fail
    clear r0 r1 r2 r3
    clear HNB
    refine (Be W0 w7 pb d An cn Av cv As cs Ag cg Am cm br k _ HP.out HN.out 1 (by omega) (by omega)).mono ?_
    rintro e w' ⟨rfl,rfl⟩
    go_wp2_with fail
    refine (Cg W0 w7 pb d An cn Av cv As cs Ag cg Am cm br k _ HP.out J (d.at 1) HJ.out (HI.out 1) yb Y HY.out HLY.out (by simp only [List.length_append];omega)).mono ?_
    rintro e w8 ⟨rfl,h1⟩
    have HP:=Ac h1.out.1
    have HK:=Ac (HK.out.trans h1.out.2)
    have HY:=Ac (h1.out.2.pen HY.out)
    obtain ⟨r0,r1,r2,r3,_⟩:=(HK.out.four HSB.out).four
    clear h1
    go_wp2_with fail
    clear r0 r1 r2 r3
    refine (Be W0 w8 pb d An cn Av cv As cs Ag cg Am cm br k _ HP.out HN.out 0 (by omega) (by omega)).mono ?_
    rintro e w' ⟨rfl,rfl⟩
    go_wp2_with fail
    refine (C5 w8 yb Y HY.out HLY.out).mono ?_
    rintro e w9 ⟨nb',rfl,hnb,hgn⟩
    have HP:=Ac (HP.out.more hgn)
    have HK:=Ac (HK.out.trans (Keeps.more hgn))
    have HY:=Ac (HY.out.more hgn)
    have HNB:=Ac hnb
    clear hnb hgn
    go_wp2_with fail
    refine (G9 W0 w9 pb d An cn Av cv As cs Ag cg Am cm br k _ HP.out J (d.at 0) HJ.out (HI.out 0) nb' (-Y) HNB.out HLN.out (by simp only [List.length_append];omega)).mono ?_
    rintro e w10 ⟨rfl,h1⟩
    have HP:=Ac h1.out.1
    have HK:=Ac (HK.out.trans h1.out.2)
    have HY:=Ac (h1.out.2.pen HY.out)
    obtain ⟨r0,r1,r2,r3,_⟩:=(HK.out.four HSB.out).four
    clear h1
    go_wp2_with fail
    clear r0 r1 r2 r3
    clear HNB
    refine (Be W0 w10 pb d An cn Av cv As cs Ag cg Am cm br k _ HP.out HN.out 1 (by omega) (by omega)).mono ?_
    rintro e w' ⟨rfl,rfl⟩
    go_wp2_with fail
    refine (G9 W0 w10 pb d An cn Av cv As cs Ag cg Am cm br k _ HP.out J (d.at 1) HJ.out (HI.out 1) yb Y HY.out HLY.out (by simp only [List.length_append];omega)).mono ?_
    rintro e w11 ⟨rfl,h1⟩
    have HP:=Ac h1.out.1
    have HK:=Ac (HK.out.trans h1.out.2)
    obtain ⟨r0,r1,r2,r3,_⟩:=(HK.out.four HSB.out).four
    clear h1
    go_wp2_with fail
    try simp only [Exit.inBlock,Exit.then]
    refine bodyPost_ret (results_none rfl _ _ _) rfl ?_
    exact ⟨rfl,Ac ⟨by rw [←HFIN.out];exact HP.out,HGW.out.trans HK.out⟩⟩
set_option maxRecDepth 100000 in
theorem Zq (W0 w:World) (pb:Nat) (d:DevP) (An:Option Addr) (cn:Nat) (Av:Option Addr) (cv:Nat) (As:Option Addr) (cs:Nat) (Ag:Option Addr) (cg:Nat) (Am:Option Addr) (cm:Nat) (br:List Int) (k:Int) (L:List StampP) (h:PenS W0 w pb d An cn Av cv As cs Ag cg Am cm br k L) (hn:NodesOK d) (h2:2≤d.nodes.length) (hkd:d.kind=99) (hv:NumOK d.val.1 d.val.2) (hL:L.length≤1000) (hk0:0≤k) (hk1:k.toNat<br.length) (ij:I64 (br.getD k.toNat 0)) (t1 t2:Int) (ht:NumOK t1 t2) (ht0:t1≠0) (lq:LimQ (numQ d.val.1 d.val.2/numQ t1 t2*((2:Int) /. 1)) 1099511627776) :
    Calls Tryz.prog 161 #[.pointer (some ⟨pb,0,none⟩),.agg #[.int .i64 2,.int .i64 2,.int .i64 t1,.int .i64 t2]] w fun e w'=>e=.returned (.tuple #[])∧Hid (PenS W0 w' pb d An cn Av cv As cs Ag cg Am cm br k (L++D8 true (d.at 0) (d.at 1) (br.getD k.toNat 0) 2 2 (numQ d.val.1 d.val.2/numQ t1 t2*((2:Int) /. 1)))∧Keeps w w'):=by
  have tk:(d.kind==99)=true:=by rw [beq_iff_eq];omega
  have HV:=Ac hv
  have HT:=Ac ht
  have HT0:=Ac (Er ht ht0)
  have HL1:=Ac (Ba hv)
  have HL2:=Ac (Ba ht)
  have HLQ:=Ac (LimQ.quo HL1.out HL2.out HT0.out)
  obtain ⟨Y,hY⟩:∃ Y:Rat,numQ d.val.1 d.val.2/numQ t1 t2*((2:Int) /. 1)=Y:=⟨_,rfl⟩
  have HQY:=Ac hY
  have HLY:=Ac lq
  rw [hY] at HLY ⊢
  have HLN:=Ac HLY.out.neg
  clear hv ht ht0 hY lq hkd
  have HGW:=Ac (Keeps.more (Af w (.cells #[.int .i64 2,.int .i64 2,.int .i64 t1,.int .i64 t2] 29) none))
  have HSB:=Ac (Blk.new w #[.int .i64 2,.int .i64 2,.int .i64 t1,.int .i64 t2] 29)
  have HP:=Ac (h.more (Af w (.cells #[.int .i64 2,.int .i64 2,.int .i64 t1,.int .i64 t2] 29) none))
  have HN:=Ac hn
  have HI:=Ac (fun i=>hn.i64 i)
  have HJ:=Ac ij
  have HOWN:=Ac (fun w' L' (h':PenS W0 w' pb d An cn Av cv As cs Ag cg Am cm br k L')=>Da W0 w' pb d An cn Av cv As cs Ag cg Am cm br k L' h' hk0 hk1)
  have HOUT:=Ac (fun w' L' (h':PenS W0 w' pb d An cn Av cv As cs Ag cg Am cm br k L') (hl:L'.length≤1000000)=>Dz W0 w' pb d An cn Av cv As cs Ag cg Am cm br k L' h' hn h2 hk0 hk1 ij hl)
  have HACR:=Ac (fun w' L' (h':PenS W0 w' pb d An cn Av cv As cs Ag cg Am cm br k L') (hl:L'.length≤1000000)=>Cv W0 w' pb d An cn Av cv As cs Ag cg Am cm br k L' h' hn h2 hk0 hk1 ij hl)
  clear h hn ij
  generalize br.getD k.toNat 0=J at *
  have l1:=Eb (d.at 0) (d.at 1) J
  have l2:=Cw (d.at 0) (d.at 1) J
  go_enter Tryz.func161,Tryz.ntmps161
  go_wp2_with fail
  generalize w.alloc (.cells #[.int .i64 2,.int .i64 2,.int .i64 t1,.int .i64 t2] 29)=wa at *
  generalize w.heap.size=s at *
  refine (HOUT.out wa _ HP.out (by omega)).mono ?_
  rintro e w1 ⟨rfl,h1⟩
  have HP:=Ac h1.out.1
  have HK:=Ac h1.out.2
  clear h1
  go_wp2_with fail
  refine (HOWN.out w1 _ HP.out).mono ?_
  rintro e w2 ⟨rfl,hgn⟩
  have HP:=Ac (HP.out.more hgn)
  have HK:=Ac (HK.out.trans (Keeps.more hgn))
  clear hgn
  obtain ⟨c0,c4,c5,c14⟩:=HP.out.cells
  obtain ⟨r0,r1,r2,r3,_⟩:=(HK.out.four HSB.out).four
  have p0:=Ch 1 J J 1
  have p1:=Ch 1 J (d.at 0) (-Y)
  have p2:=Ch 1 J (d.at 1) Y
  have p3:=Ch 2 J (d.at 0) (-Y)
  have p4:=Ch 2 J (d.at 1) Y
  have HFIN:Hid (L++outL (d.at 0) (d.at 1) J++put1 1 J J 1++put1 1 J (d.at 0) (-Y)++put1 1 J (d.at 1) Y++put1 2 J (d.at 0) (-Y)++put1 2 J (d.at 1) Y++put1 2 J J (-1)=L++D8 true (d.at 0) (d.at 1) J 2 2 Y):=Ac (by simp [D8,List.append_assoc])
  have HCW:=Ac (fun w' (h:World.grownBy w2 w' none)=>And.intro (Aj h c4 (by simp)) (And.intro (Aj h c5 (by simp)) (And.intro (Aj h r2 (by simp)) (Aj h r3 (by simp)))))
  go_upto_region 9 with (fail)
  go_cut [6] (fun y wx=>∃ yb,y=.pointer (some ⟨yb,0,none⟩)∧(w2).heap.size≤yb∧(w2).grownBy wx none∧Hid (RatB wx yb (numQ d.val.1 d.val.2/numQ t1 t2)))
  case first =>
   as_aux_lemma =>
    go_region_held3 (fun w'=>w'.cell? ⟨pb,4,none⟩=some (.int .i64 d.val.1)∧w'.cell? ⟨pb,5,none⟩=some (.int .i64 d.val.2)∧w'.cell? ⟨s,2,none⟩=some (.int .i64 t1)∧w'.cell? ⟨s,3,none⟩=some (.int .i64 t2)) ((refine HCW.out _ ?_;(focus ((repeat (first | assumption | exact Al _ _ | exact Ai _ _ | exact Af _ _ _ | refine Ae ?_ (Af _ _ _) | refine Ae ?_ (Ai _ _) | refine Ae ?_ (by assumption)));done))))
     (first
     | (go_at_call_of 149 (Value.agg #[.int .i64 d.val.1,.int .i64 d.val.2]);refine (Bh _ d.val.1 d.val.2 HV.out).mono ?_;rintro o' w13 ⟨bb2,rfl,hi2,hb2,hg2⟩)
     | (go_at_call 149;refine (Bh _ t1 t2 HT.out).mono ?_;rintro o' w14 ⟨bb3,rfl,hi3,hb3,hg3⟩)
     | (go_at_call 204;refine (Ic _ _ bb2 bb3 0 _ _ (by first | exact (RatB.new' (w0:=(w2).drew) rfl _).more (by (focus ((repeat (first | assumption | exact Al _ _ | exact Ai _ _ | exact Af _ _ _ | refine Ae ?_ (Af _ _ _) | refine Ae ?_ (Ai _ _) | refine Ae ?_ (by assumption)));done))) | exact (RatB.new' (w0:=w13) rfl _).more (by (focus ((repeat (first | assumption | exact Al _ _ | exact Ai _ _ | exact Af _ _ _ | refine Ae ?_ (Af _ _ _) | refine Ae ?_ (Ai _ _) | refine Ae ?_ (by assumption)));done))) | exact (RatB.new' (w0:=w14) rfl _).more (by (focus ((repeat (first | assumption | exact Al _ _ | exact Ai _ _ | exact Af _ _ _ | refine Ae ?_ (Af _ _ _) | refine Ae ?_ (Ai _ _) | refine Ae ?_ (by assumption)));done)))) (hi2.more (by (focus ((repeat (first | assumption | exact Al _ _ | exact Ai _ _ | exact Af _ _ _ | refine Ae ?_ (Af _ _ _) | refine Ae ?_ (Ai _ _) | refine Ae ?_ (by assumption)));done)))) (hi3.more (by (focus ((repeat (first | assumption | exact Al _ _ | exact Ai _ _ | exact Af _ _ _ | refine Ae ?_ (Af _ _ _) | refine Ae ?_ (Ai _ _) | refine Ae ?_ (by assumption)));done)))) HT0.out 3 (by omega) HL1.out HL2.out).mono ?_;rintro o' w15 ⟨rfl,hi4,hg4⟩;have g4:=Aw (show World.grownBy w2 _ none by (focus ((repeat (first | assumption | exact Al _ _ | exact Ai _ _ | exact Af _ _ _ | refine Ae ?_ (Af _ _ _) | refine Ae ?_ (Ai _ _) | refine Ae ?_ (by assumption)));done))) hg4 (by first | exact Nat.le_refl _ | exact (show World.grownBy w2 w13 none by (focus ((repeat (first | assumption | exact Al _ _ | exact Ai _ _ | exact Af _ _ _ | refine Ae ?_ (Af _ _ _) | refine Ae ?_ (Ai _ _) | refine Ae ?_ (by assumption)));done))).size | exact (show World.grownBy w2 w14 none by (focus ((repeat (first | assumption | exact Al _ _ | exact Ai _ _ | exact Af _ _ _ | refine Ae ?_ (Af _ _ _) | refine Ae ?_ (Ai _ _) | refine Ae ?_ (by assumption)));done))).size)))
    all_goals
      go_wp2_with fail
      go_meet
      exact ⟨_,rfl,by first | exact Nat.le_refl _ | exact (show World.grownBy w2 w13 none by (focus ((repeat (first | assumption | exact Al _ _ | exact Ai _ _ | exact Af _ _ _ | refine Ae ?_ (Af _ _ _) | refine Ae ?_ (Ai _ _) | refine Ae ?_ (by assumption)));done))).size | exact (show World.grownBy w2 w14 none by (focus ((repeat (first | assumption | exact Al _ _ | exact Ai _ _ | exact Af _ _ _ | refine Ae ?_ (Af _ _ _) | refine Ae ?_ (Ai _ _) | refine Ae ?_ (by assumption)));done))).size,g4,Ac hi4⟩
  case rest =>
   as_aux_lemma =>
    obtain ⟨yb,rfl,hyb,hgy,hy⟩:=hcut
    have HPC:=Ac (HP.out.more hgy)
    clear c0 c4 c5 c14 r0 r1 r2 r3 HCW
    obtain ⟨r0,r1,r2,r3,_⟩:=((HK.out.trans (Keeps.more hgy)).four HSB.out).four
    go_wp2_with fail
    refine (F7 wc 2 1 (by omega) (by omega) (by omega) (by omega) (by omega)).mono ?_
    rintro e u4 ⟨tb,rfl,ht,htb,hgn⟩
    have HG4:=Ac (Ae hgy hgn)
    have HP4:=Ac (HPC.out.more hgn)
    have HY4:=Ac (hy.out.more hgn)
    have HTB:=Ac ht
    have HYB:=Ac hyb
    clear hgy hgn ht htb hy hyb HPC r0 r1 r2 r3
    go_wp2_with fail
    refine (Gl u4 yb yb tb _ _ _ HY4.out HY4.out HTB.out 6 (by omega) HLQ.out (Lh (by omega))).mono ?_
    rintro e u5 ⟨rfl,hm,hg5⟩
    have HP:=Ac (HP4.out.other HY4.out hg5 (Nat.le_trans HP.out.grown.size HYB.out))
    have HK:=Ac (HK.out.other HG4.out HYB.out HY4.out hg5)
    have HY:=Ac hm
    rw [HQY.out] at HY
    clear hm hg5 HY4 HP4 HTB
    obtain ⟨r0,r1,r2,r3,_⟩:=(HK.out.four HSB.out).four
    go_wp2_with fail
    clear r0 r1 r2 r3
    refine (D6 u5).mono ?_
    rintro e w4 ⟨ob,rfl,hob,hgn⟩
    have HP:=Ac (HP.out.more hgn)
    have HK:=Ac (HK.out.trans (Keeps.more hgn))
    have HY:=Ac (HY.out.more hgn)
    have HOB:=Ac hob
    clear hob hgn
    go_wp2_with fail
    refine (Cg W0 w4 pb d An cn Av cv As cs Ag cg Am cm br k _ HP.out J J HJ.out HJ.out ob 1 HOB.out Dd (by simp only [List.length_append];omega)).mono ?_
    rintro e w5 ⟨rfl,h1⟩
    have HP:=Ac h1.out.1
    have HK:=Ac (HK.out.trans h1.out.2)
    have HY:=Ac (h1.out.2.pen HY.out)
    obtain ⟨r0,r1,r2,r3,_⟩:=(HK.out.four HSB.out).four
    clear h1
    go_wp2_with fail
    clear r0 r1 r2 r3
    clear HOB
    refine (Be W0 w5 pb d An cn Av cv As cs Ag cg Am cm br k _ HP.out HN.out 0 (by omega) (by omega)).mono ?_
    rintro e w' ⟨rfl,rfl⟩
    go_wp2_with fail
    refine (C5 w5 yb Y HY.out HLY.out).mono ?_
    rintro e w6 ⟨nb',rfl,hnb,hgn⟩
    have HP:=Ac (HP.out.more hgn)
    have HK:=Ac (HK.out.trans (Keeps.more hgn))
    have HY:=Ac (HY.out.more hgn)
    have HNB:=Ac hnb
    clear hnb hgn
    go_wp2_with fail
    refine (Cg W0 w6 pb d An cn Av cv As cs Ag cg Am cm br k _ HP.out J (d.at 0) HJ.out (HI.out 0) nb' (-Y) HNB.out HLN.out (by simp only [List.length_append];omega)).mono ?_
    rintro e w7 ⟨rfl,h1⟩
    have HP:=Ac h1.out.1
    have HK:=Ac (HK.out.trans h1.out.2)
    have HY:=Ac (h1.out.2.pen HY.out)
    obtain ⟨r0,r1,r2,r3,_⟩:=(HK.out.four HSB.out).four
    clear h1
    go_wp2_with fail
    clear r0 r1 r2 r3
    clear HNB
    refine (Be W0 w7 pb d An cn Av cv As cs Ag cg Am cm br k _ HP.out HN.out 1 (by omega) (by omega)).mono ?_
    rintro e w' ⟨rfl,rfl⟩
    go_wp2_with fail
    refine (Cg W0 w7 pb d An cn Av cv As cs Ag cg Am cm br k _ HP.out J (d.at 1) HJ.out (HI.out 1) yb Y HY.out HLY.out (by simp only [List.length_append];omega)).mono ?_
    rintro e w8 ⟨rfl,h1⟩
    have HP:=Ac h1.out.1
    have HK:=Ac (HK.out.trans h1.out.2)
    have HY:=Ac (h1.out.2.pen HY.out)
    obtain ⟨r0,r1,r2,r3,_⟩:=(HK.out.four HSB.out).four
    clear h1
    go_wp2_with fail
    clear r0 r1 r2 r3
    refine (Be W0 w8 pb d An cn Av cv As cs Ag cg Am cm br k _ HP.out HN.out 0 (by omega) (by omega)).mono ?_
    rintro e w' ⟨rfl,rfl⟩
    go_wp2_with fail
    refine (C5 w8 yb Y HY.out HLY.out).mono ?_
    rintro e w9 ⟨nb',rfl,hnb,hgn⟩
    have HP:=Ac (HP.out.more hgn)
    have HK:=Ac (HK.out.trans (Keeps.more hgn))
    have HY:=Ac (HY.out.more hgn)
    have HNB:=Ac hnb
    clear hnb hgn
    go_wp2_with fail
    refine (G9 W0 w9 pb d An cn Av cv As cs Ag cg Am cm br k _ HP.out J (d.at 0) HJ.out (HI.out 0) nb' (-Y) HNB.out HLN.out (by simp only [List.length_append];omega)).mono ?_
    rintro e w10 ⟨rfl,h1⟩
    have HP:=Ac h1.out.1
    have HK:=Ac (HK.out.trans h1.out.2)
    have HY:=Ac (h1.out.2.pen HY.out)
    obtain ⟨r0,r1,r2,r3,_⟩:=(HK.out.four HSB.out).four
    clear h1
    go_wp2_with fail
    clear r0 r1 r2 r3
    clear HNB
    refine (Be W0 w10 pb d An cn Av cv As cs Ag cg Am cm br k _ HP.out HN.out 1 (by omega) (by omega)).mono ?_
    rintro e w' ⟨rfl,rfl⟩
    go_wp2_with fail
    refine (G9 W0 w10 pb d An cn Av cv As cs Ag cg Am cm br k _ HP.out J (d.at 1) HJ.out (HI.out 1) yb Y HY.out HLY.out (by simp only [List.length_append];omega)).mono ?_
    rintro e w11 ⟨rfl,h1⟩
    have HP:=Ac h1.out.1
    have HK:=Ac (HK.out.trans h1.out.2)
    have HY:=Ac (h1.out.2.pen HY.out)
    obtain ⟨r0,r1,r2,r3,_⟩:=(HK.out.four HSB.out).four
    clear h1
    go_wp2_with fail
    clear r0 r1 r2 r3
    refine (D6 w11).mono ?_
    rintro e w12 ⟨ob,rfl,hob,hgn⟩
    have HP:=Ac (HP.out.more hgn)
    have HK:=Ac (HK.out.trans (Keeps.more hgn))
    have HY:=Ac (HY.out.more hgn)
    have HOB:=Ac hob
    clear hob hgn
    go_wp2_with fail
    refine (C5 w12 ob 1 HOB.out Dd).mono ?_
    rintro e w13 ⟨nb',rfl,hnb,hgn⟩
    have HP:=Ac (HP.out.more hgn)
    have HK:=Ac (HK.out.trans (Keeps.more hgn))
    have HY:=Ac (HY.out.more hgn)
    have HNB:=Ac hnb
    clear hnb hgn
    go_wp2_with fail
    refine (G9 W0 w13 pb d An cn Av cv As cs Ag cg Am cm br k _ HP.out J J HJ.out HJ.out nb' (-1) HNB.out Hu (by simp only [List.length_append];omega)).mono ?_
    rintro e w14 ⟨rfl,h1⟩
    go_wp2_with fail
    try simp only [Exit.inBlock,Exit.then]
    refine bodyPost_ret (results_none rfl _ _ _) rfl ?_
    exact ⟨rfl,Ac ⟨by rw [←HFIN.out];exact h1.out.1,HGW.out.trans (HK.out.trans h1.out.2)⟩⟩
set_option maxRecDepth 100000 in
theorem Zr (W0 w:World) (pb:Nat) (d:DevP) (An:Option Addr) (cn:Nat) (Av:Option Addr) (cv:Nat) (As:Option Addr) (cs:Nat) (Ag:Option Addr) (cg:Nat) (Am:Option Addr) (cm:Nat) (br:List Int) (k:Int) (L:List StampP) (h:PenS W0 w pb d An cn Av cv As cs Ag cg Am cm br k L) (hn:NodesOK d) (h2:2≤d.nodes.length) (hkd:d.kind=108) (hv:NumOK d.val.1 d.val.2) (hL:L.length≤1000) (hk0:0≤k) (hk1:k.toNat<br.length) (ij:I64 (br.getD k.toNat 0)) (t1 t2:Int) (ht:NumOK t1 t2) (ht0:t1≠0) (lq:LimQ (numQ d.val.1 d.val.2/numQ t1 t2) 1099511627776) :
    Calls Tryz.prog 161 #[.pointer (some ⟨pb,0,none⟩),.agg #[.int .i64 2,.int .i64 1,.int .i64 t1,.int .i64 t2]] w fun e w'=>e=.returned (.tuple #[])∧Hid (PenS W0 w' pb d An cn Av cv As cs Ag cg Am cm br k (L++D8 false (d.at 0) (d.at 1) (br.getD k.toNat 0) 2 1 (numQ d.val.1 d.val.2/numQ t1 t2))∧Keeps w w'):=by
  have tk:(d.kind==99)=false:=by rw [beq_eq_false_iff_ne];omega
  have HV:=Ac hv
  have HT:=Ac ht
  have HT0:=Ac (Er ht ht0)
  have HL1:=Ac (Ba hv)
  have HL2:=Ac (Ba ht)
  have HLQ:=Ac (LimQ.quo HL1.out HL2.out HT0.out)
  obtain ⟨Y,hY⟩:∃ Y:Rat,numQ d.val.1 d.val.2/numQ t1 t2=Y:=⟨_,rfl⟩
  have HQY:=Ac hY
  have HLY:=Ac lq
  rw [hY] at HLY ⊢
  have HLN:=Ac HLY.out.neg
  clear hv ht ht0 hY lq hkd
  have HGW:=Ac (Keeps.more (Af w (.cells #[.int .i64 2,.int .i64 1,.int .i64 t1,.int .i64 t2] 29) none))
  have HSB:=Ac (Blk.new w #[.int .i64 2,.int .i64 1,.int .i64 t1,.int .i64 t2] 29)
  have HP:=Ac (h.more (Af w (.cells #[.int .i64 2,.int .i64 1,.int .i64 t1,.int .i64 t2] 29) none))
  have HN:=Ac hn
  have HI:=Ac (fun i=>hn.i64 i)
  have HJ:=Ac ij
  have HOWN:=Ac (fun w' L' (h':PenS W0 w' pb d An cn Av cv As cs Ag cg Am cm br k L')=>Da W0 w' pb d An cn Av cv As cs Ag cg Am cm br k L' h' hk0 hk1)
  have HOUT:=Ac (fun w' L' (h':PenS W0 w' pb d An cn Av cv As cs Ag cg Am cm br k L') (hl:L'.length≤1000000)=>Dz W0 w' pb d An cn Av cv As cs Ag cg Am cm br k L' h' hn h2 hk0 hk1 ij hl)
  have HACR:=Ac (fun w' L' (h':PenS W0 w' pb d An cn Av cv As cs Ag cg Am cm br k L') (hl:L'.length≤1000000)=>Cv W0 w' pb d An cn Av cv As cs Ag cg Am cm br k L' h' hn h2 hk0 hk1 ij hl)
  clear h hn ij
  generalize br.getD k.toNat 0=J at *
  have l1:=Eb (d.at 0) (d.at 1) J
  have l2:=Cw (d.at 0) (d.at 1) J
  go_enter Tryz.func161,Tryz.ntmps161
  go_wp2_with fail
  generalize w.alloc (.cells #[.int .i64 2,.int .i64 1,.int .i64 t1,.int .i64 t2] 29)=wa at *
  generalize w.heap.size=s at *
  refine (HOUT.out wa _ HP.out (by omega)).mono ?_
  rintro e w1 ⟨rfl,h1⟩
  have HP:=Ac h1.out.1
  have HK:=Ac h1.out.2
  clear h1
  go_wp2_with fail
  refine (HOWN.out w1 _ HP.out).mono ?_
  rintro e w2 ⟨rfl,hgn⟩
  have HP:=Ac (HP.out.more hgn)
  have HK:=Ac (HK.out.trans (Keeps.more hgn))
  clear hgn
  obtain ⟨c0,c4,c5,c14⟩:=HP.out.cells
  obtain ⟨r0,r1,r2,r3,_⟩:=(HK.out.four HSB.out).four
  have p0:=Ch 1 J J (-Y)
  have HFIN:Hid (L++outL (d.at 0) (d.at 1) J++Bw (d.at 0) (d.at 1) J++put1 1 J J (-Y)++put1 2 J J (-Y)=L++D8 false (d.at 0) (d.at 1) J 2 1 Y):=Ac (by simp [D8,List.append_assoc])
  go_wp2_with fail
  clear c0 c4 c5 c14 r0 r1 r2 r3
  refine (HACR.out w2 _ HP.out (by rw [List.length_append];omega)).mono ?_
  rintro e w3 ⟨rfl,h1⟩
  have HP:=Ac h1.out.1
  have HK:=Ac (HK.out.trans h1.out.2)
  clear h1
  obtain ⟨c0,c4,c5,c14⟩:=HP.out.cells
  obtain ⟨r0,r1,r2,r3,_⟩:=(HK.out.four HSB.out).four
  have HCW:=Ac (fun w' (h:World.grownBy w3 w' none)=>And.intro (Aj h c4 (by simp)) (And.intro (Aj h c5 (by simp)) (And.intro (Aj h r2 (by simp)) (Aj h r3 (by simp)))))
  go_upto_region 9 with (fail)
  go_cut [6] (fun y wx=>∃ yb,y=.pointer (some ⟨yb,0,none⟩)∧(w3).heap.size≤yb∧(w3).grownBy wx none∧Hid (RatB wx yb (numQ d.val.1 d.val.2/numQ t1 t2)))
  case first =>
   as_aux_lemma =>
    go_region_held3 (fun w'=>w'.cell? ⟨pb,4,none⟩=some (.int .i64 d.val.1)∧w'.cell? ⟨pb,5,none⟩=some (.int .i64 d.val.2)∧w'.cell? ⟨s,2,none⟩=some (.int .i64 t1)∧w'.cell? ⟨s,3,none⟩=some (.int .i64 t2)) ((refine HCW.out _ ?_;(focus ((repeat (first | assumption | exact Al _ _ | exact Ai _ _ | exact Af _ _ _ | refine Ae ?_ (Af _ _ _) | refine Ae ?_ (Ai _ _) | refine Ae ?_ (by assumption)));done))))
     (first
     | (go_at_call_of 149 (Value.agg #[.int .i64 d.val.1,.int .i64 d.val.2]);refine (Bh _ d.val.1 d.val.2 HV.out).mono ?_;rintro o' w13 ⟨bb2,rfl,hi2,hb2,hg2⟩)
     | (go_at_call 149;refine (Bh _ t1 t2 HT.out).mono ?_;rintro o' w14 ⟨bb3,rfl,hi3,hb3,hg3⟩)
     | (go_at_call 204;refine (Ic _ _ bb2 bb3 0 _ _ (by first | exact (RatB.new' (w0:=(w3).drew) rfl _).more (by (focus ((repeat (first | assumption | exact Al _ _ | exact Ai _ _ | exact Af _ _ _ | refine Ae ?_ (Af _ _ _) | refine Ae ?_ (Ai _ _) | refine Ae ?_ (by assumption)));done))) | exact (RatB.new' (w0:=w13) rfl _).more (by (focus ((repeat (first | assumption | exact Al _ _ | exact Ai _ _ | exact Af _ _ _ | refine Ae ?_ (Af _ _ _) | refine Ae ?_ (Ai _ _) | refine Ae ?_ (by assumption)));done))) | exact (RatB.new' (w0:=w14) rfl _).more (by (focus ((repeat (first | assumption | exact Al _ _ | exact Ai _ _ | exact Af _ _ _ | refine Ae ?_ (Af _ _ _) | refine Ae ?_ (Ai _ _) | refine Ae ?_ (by assumption)));done)))) (hi2.more (by (focus ((repeat (first | assumption | exact Al _ _ | exact Ai _ _ | exact Af _ _ _ | refine Ae ?_ (Af _ _ _) | refine Ae ?_ (Ai _ _) | refine Ae ?_ (by assumption)));done)))) (hi3.more (by (focus ((repeat (first | assumption | exact Al _ _ | exact Ai _ _ | exact Af _ _ _ | refine Ae ?_ (Af _ _ _) | refine Ae ?_ (Ai _ _) | refine Ae ?_ (by assumption)));done)))) HT0.out 3 (by omega) HL1.out HL2.out).mono ?_;rintro o' w15 ⟨rfl,hi4,hg4⟩;have g4:=Aw (show World.grownBy w3 _ none by (focus ((repeat (first | assumption | exact Al _ _ | exact Ai _ _ | exact Af _ _ _ | refine Ae ?_ (Af _ _ _) | refine Ae ?_ (Ai _ _) | refine Ae ?_ (by assumption)));done))) hg4 (by first | exact Nat.le_refl _ | exact (show World.grownBy w3 w13 none by (focus ((repeat (first | assumption | exact Al _ _ | exact Ai _ _ | exact Af _ _ _ | refine Ae ?_ (Af _ _ _) | refine Ae ?_ (Ai _ _) | refine Ae ?_ (by assumption)));done))).size | exact (show World.grownBy w3 w14 none by (focus ((repeat (first | assumption | exact Al _ _ | exact Ai _ _ | exact Af _ _ _ | refine Ae ?_ (Af _ _ _) | refine Ae ?_ (Ai _ _) | refine Ae ?_ (by assumption)));done))).size)))
    all_goals
      go_wp2_with fail
      go_meet
      exact ⟨_,rfl,by first | exact Nat.le_refl _ | exact (show World.grownBy w3 w13 none by (focus ((repeat (first | assumption | exact Al _ _ | exact Ai _ _ | exact Af _ _ _ | refine Ae ?_ (Af _ _ _) | refine Ae ?_ (Ai _ _) | refine Ae ?_ (by assumption)));done))).size | exact (show World.grownBy w3 w14 none by (focus ((repeat (first | assumption | exact Al _ _ | exact Ai _ _ | exact Af _ _ _ | refine Ae ?_ (Af _ _ _) | refine Ae ?_ (Ai _ _) | refine Ae ?_ (by assumption)));done))).size,g4,Ac hi4⟩
  case rest =>
   as_aux_lemma =>
    obtain ⟨yb,rfl,hyb,hgy,hy⟩:=hcut
    have HP:=Ac (HP.out.more hgy)
    have HK:=Ac (HK.out.trans (Keeps.more hgy))
    have HYB:=Ac hyb
    clear hyb hgy c0 c4 c5 c14 r0 r1 r2 r3 HCW
    obtain ⟨r0,r1,r2,r3,_⟩:=(HK.out.four HSB.out).four
    have HY:=Ac hy.out
    rw [HQY.out] at HY
    clear hy
    go_wp2_with fail
    clear r0 r1 r2 r3
    refine (C5 wc yb Y HY.out HLY.out).mono ?_
    rintro e w6 ⟨nb',rfl,hnb,hgn⟩
    have HP:=Ac (HP.out.more hgn)
    have HK:=Ac (HK.out.trans (Keeps.more hgn))
    have HY:=Ac (HY.out.more hgn)
    have HNB:=Ac hnb
    clear hnb hgn
    go_wp2_with fail
    refine (Cg W0 w6 pb d An cn Av cv As cs Ag cg Am cm br k _ HP.out J J HJ.out HJ.out nb' (-Y) HNB.out HLN.out (by simp only [List.length_append];omega)).mono ?_
    rintro e w7 ⟨rfl,h1⟩
    have HP:=Ac h1.out.1
    have HK:=Ac (HK.out.trans h1.out.2)
    have HY:=Ac (h1.out.2.pen HY.out)
    obtain ⟨r0,r1,r2,r3,_⟩:=(HK.out.four HSB.out).four
    clear h1
    go_wp2_with fail
    clear r0 r1 r2 r3
    clear HNB
    refine (C5 w7 yb Y HY.out HLY.out).mono ?_
    rintro e w9 ⟨nb',rfl,hnb,hgn⟩
    have HP:=Ac (HP.out.more hgn)
    have HK:=Ac (HK.out.trans (Keeps.more hgn))
    have HY:=Ac (HY.out.more hgn)
    have HNB:=Ac hnb
    clear hnb hgn
    go_wp2_with fail
    refine (G9 W0 w9 pb d An cn Av cv As cs Ag cg Am cm br k _ HP.out J J HJ.out HJ.out nb' (-Y) HNB.out HLN.out (by simp only [List.length_append];omega)).mono ?_
    rintro e w11 ⟨rfl,h1⟩
    have HP:=Ac h1.out.1
    have HK:=Ac (HK.out.trans h1.out.2)
    obtain ⟨r0,r1,r2,r3,_⟩:=(HK.out.four HSB.out).four
    clear h1
    go_wp2_with fail
    go_end0
    exact ⟨rfl,Ac ⟨by rw [←HFIN.out];exact HP.out,HGW.out.trans HK.out⟩⟩
set_option maxRecDepth 100000 in
theorem Zs (W0 w:World) (pb:Nat) (d:DevP) (An:Option Addr) (cn:Nat) (Av:Option Addr) (cv:Nat) (As:Option Addr) (cs:Nat) (Ag:Option Addr) (cg:Nat) (Am:Option Addr) (cm:Nat) (br:List Int) (k:Int) (L:List StampP) (h:PenS W0 w pb d An cn Av cv As cs Ag cg Am cm br k L) (hn:NodesOK d) (h2:2≤d.nodes.length) (hkd:d.kind=108) (hv:NumOK d.val.1 d.val.2) (hL:L.length≤1000) (hk0:0≤k) (hk1:k.toNat<br.length) (ij:I64 (br.getD k.toNat 0)) (t1 t2:Int) (ht:NumOK t1 t2) (ht0:t1≠0) (lq:LimQ (numQ d.val.1 d.val.2/numQ t1 t2*((2:Int) /. 1)) 1099511627776) :
    Calls Tryz.prog 161 #[.pointer (some ⟨pb,0,none⟩),.agg #[.int .i64 2,.int .i64 2,.int .i64 t1,.int .i64 t2]] w fun e w'=>e=.returned (.tuple #[])∧Hid (PenS W0 w' pb d An cn Av cv As cs Ag cg Am cm br k (L++D8 false (d.at 0) (d.at 1) (br.getD k.toNat 0) 2 2 (numQ d.val.1 d.val.2/numQ t1 t2*((2:Int) /. 1)))∧Keeps w w'):=by
  have tk:(d.kind==99)=false:=by rw [beq_eq_false_iff_ne];omega
  have HV:=Ac hv
  have HT:=Ac ht
  have HT0:=Ac (Er ht ht0)
  have HL1:=Ac (Ba hv)
  have HL2:=Ac (Ba ht)
  have HLQ:=Ac (LimQ.quo HL1.out HL2.out HT0.out)
  obtain ⟨Y,hY⟩:∃ Y:Rat,numQ d.val.1 d.val.2/numQ t1 t2*((2:Int) /. 1)=Y:=⟨_,rfl⟩
  have HQY:=Ac hY
  have HLY:=Ac lq
  rw [hY] at HLY ⊢
  have HLN:=Ac HLY.out.neg
  clear hv ht ht0 hY lq hkd
  have HGW:=Ac (Keeps.more (Af w (.cells #[.int .i64 2,.int .i64 2,.int .i64 t1,.int .i64 t2] 29) none))
  have HSB:=Ac (Blk.new w #[.int .i64 2,.int .i64 2,.int .i64 t1,.int .i64 t2] 29)
  have HP:=Ac (h.more (Af w (.cells #[.int .i64 2,.int .i64 2,.int .i64 t1,.int .i64 t2] 29) none))
  have HN:=Ac hn
  have HI:=Ac (fun i=>hn.i64 i)
  have HJ:=Ac ij
  have HOWN:=Ac (fun w' L' (h':PenS W0 w' pb d An cn Av cv As cs Ag cg Am cm br k L')=>Da W0 w' pb d An cn Av cv As cs Ag cg Am cm br k L' h' hk0 hk1)
  have HOUT:=Ac (fun w' L' (h':PenS W0 w' pb d An cn Av cv As cs Ag cg Am cm br k L') (hl:L'.length≤1000000)=>Dz W0 w' pb d An cn Av cv As cs Ag cg Am cm br k L' h' hn h2 hk0 hk1 ij hl)
  have HACR:=Ac (fun w' L' (h':PenS W0 w' pb d An cn Av cv As cs Ag cg Am cm br k L') (hl:L'.length≤1000000)=>Cv W0 w' pb d An cn Av cv As cs Ag cg Am cm br k L' h' hn h2 hk0 hk1 ij hl)
  clear h hn ij
  generalize br.getD k.toNat 0=J at *
  have l1:=Eb (d.at 0) (d.at 1) J
  have l2:=Cw (d.at 0) (d.at 1) J
  go_enter Tryz.func161,Tryz.ntmps161
  go_wp2_with fail
  generalize w.alloc (.cells #[.int .i64 2,.int .i64 2,.int .i64 t1,.int .i64 t2] 29)=wa at *
  generalize w.heap.size=s at *
  refine (HOUT.out wa _ HP.out (by omega)).mono ?_
  rintro e w1 ⟨rfl,h1⟩
  have HP:=Ac h1.out.1
  have HK:=Ac h1.out.2
  clear h1
  go_wp2_with fail
  refine (HOWN.out w1 _ HP.out).mono ?_
  rintro e w2 ⟨rfl,hgn⟩
  have HP:=Ac (HP.out.more hgn)
  have HK:=Ac (HK.out.trans (Keeps.more hgn))
  clear hgn
  obtain ⟨c0,c4,c5,c14⟩:=HP.out.cells
  obtain ⟨r0,r1,r2,r3,_⟩:=(HK.out.four HSB.out).four
  have p0:=Ch 1 J J (-Y)
  have p1:=Ch 2 J J (-Y)
  have p2:=Ch 2 J (d.at 0) (-1)
  have HFIN:Hid (L++outL (d.at 0) (d.at 1) J++Bw (d.at 0) (d.at 1) J++put1 1 J J (-Y)++put1 2 J J (-Y)++put1 2 J (d.at 0) (-1)++put1 2 J (d.at 1) 1=L++D8 false (d.at 0) (d.at 1) J 2 2 Y):=Ac (by simp [D8,List.append_assoc])
  go_wp2_with fail
  clear c0 c4 c5 c14 r0 r1 r2 r3
  refine (HACR.out w2 _ HP.out (by rw [List.length_append];omega)).mono ?_
  rintro e w3 ⟨rfl,h1⟩
  have HP:=Ac h1.out.1
  have HK:=Ac (HK.out.trans h1.out.2)
  clear h1
  obtain ⟨c0,c4,c5,c14⟩:=HP.out.cells
  obtain ⟨r0,r1,r2,r3,_⟩:=(HK.out.four HSB.out).four
  have HCW:=Ac (fun w' (h:World.grownBy w3 w' none)=>And.intro (Aj h c4 (by simp)) (And.intro (Aj h c5 (by simp)) (And.intro (Aj h r2 (by simp)) (Aj h r3 (by simp)))))
  go_upto_region 9 with (fail)
  go_cut [6] (fun y wx=>∃ yb,y=.pointer (some ⟨yb,0,none⟩)∧(w3).heap.size≤yb∧(w3).grownBy wx none∧Hid (RatB wx yb (numQ d.val.1 d.val.2/numQ t1 t2)))
  case first =>
   as_aux_lemma =>
    go_region_held3 (fun w'=>w'.cell? ⟨pb,4,none⟩=some (.int .i64 d.val.1)∧w'.cell? ⟨pb,5,none⟩=some (.int .i64 d.val.2)∧w'.cell? ⟨s,2,none⟩=some (.int .i64 t1)∧w'.cell? ⟨s,3,none⟩=some (.int .i64 t2)) ((refine HCW.out _ ?_;(focus ((repeat (first | assumption | exact Al _ _ | exact Ai _ _ | exact Af _ _ _ | refine Ae ?_ (Af _ _ _) | refine Ae ?_ (Ai _ _) | refine Ae ?_ (by assumption)));done))))
     (first
     | (go_at_call_of 149 (Value.agg #[.int .i64 d.val.1,.int .i64 d.val.2]);refine (Bh _ d.val.1 d.val.2 HV.out).mono ?_;rintro o' w13 ⟨bb2,rfl,hi2,hb2,hg2⟩)
     | (go_at_call 149;refine (Bh _ t1 t2 HT.out).mono ?_;rintro o' w14 ⟨bb3,rfl,hi3,hb3,hg3⟩)
     | (go_at_call 204;refine (Ic _ _ bb2 bb3 0 _ _ (by first | exact (RatB.new' (w0:=(w3).drew) rfl _).more (by (focus ((repeat (first | assumption | exact Al _ _ | exact Ai _ _ | exact Af _ _ _ | refine Ae ?_ (Af _ _ _) | refine Ae ?_ (Ai _ _) | refine Ae ?_ (by assumption)));done))) | exact (RatB.new' (w0:=w13) rfl _).more (by (focus ((repeat (first | assumption | exact Al _ _ | exact Ai _ _ | exact Af _ _ _ | refine Ae ?_ (Af _ _ _) | refine Ae ?_ (Ai _ _) | refine Ae ?_ (by assumption)));done))) | exact (RatB.new' (w0:=w14) rfl _).more (by (focus ((repeat (first | assumption | exact Al _ _ | exact Ai _ _ | exact Af _ _ _ | refine Ae ?_ (Af _ _ _) | refine Ae ?_ (Ai _ _) | refine Ae ?_ (by assumption)));done)))) (hi2.more (by (focus ((repeat (first | assumption | exact Al _ _ | exact Ai _ _ | exact Af _ _ _ | refine Ae ?_ (Af _ _ _) | refine Ae ?_ (Ai _ _) | refine Ae ?_ (by assumption)));done)))) (hi3.more (by (focus ((repeat (first | assumption | exact Al _ _ | exact Ai _ _ | exact Af _ _ _ | refine Ae ?_ (Af _ _ _) | refine Ae ?_ (Ai _ _) | refine Ae ?_ (by assumption)));done)))) HT0.out 3 (by omega) HL1.out HL2.out).mono ?_;rintro o' w15 ⟨rfl,hi4,hg4⟩;have g4:=Aw (show World.grownBy w3 _ none by (focus ((repeat (first | assumption | exact Al _ _ | exact Ai _ _ | exact Af _ _ _ | refine Ae ?_ (Af _ _ _) | refine Ae ?_ (Ai _ _) | refine Ae ?_ (by assumption)));done))) hg4 (by first | exact Nat.le_refl _ | exact (show World.grownBy w3 w13 none by (focus ((repeat (first | assumption | exact Al _ _ | exact Ai _ _ | exact Af _ _ _ | refine Ae ?_ (Af _ _ _) | refine Ae ?_ (Ai _ _) | refine Ae ?_ (by assumption)));done))).size | exact (show World.grownBy w3 w14 none by (focus ((repeat (first | assumption | exact Al _ _ | exact Ai _ _ | exact Af _ _ _ | refine Ae ?_ (Af _ _ _) | refine Ae ?_ (Ai _ _) | refine Ae ?_ (by assumption)));done))).size)))
    all_goals
      go_wp2_with fail
      go_meet
      exact ⟨_,rfl,by first | exact Nat.le_refl _ | exact (show World.grownBy w3 w13 none by (focus ((repeat (first | assumption | exact Al _ _ | exact Ai _ _ | exact Af _ _ _ | refine Ae ?_ (Af _ _ _) | refine Ae ?_ (Ai _ _) | refine Ae ?_ (by assumption)));done))).size | exact (show World.grownBy w3 w14 none by (focus ((repeat (first | assumption | exact Al _ _ | exact Ai _ _ | exact Af _ _ _ | refine Ae ?_ (Af _ _ _) | refine Ae ?_ (Ai _ _) | refine Ae ?_ (by assumption)));done))).size,g4,Ac hi4⟩
  case rest =>
   as_aux_lemma =>
    obtain ⟨yb,rfl,hyb,hgy,hy⟩:=hcut
    have HPC:=Ac (HP.out.more hgy)
    clear c0 c4 c5 c14 r0 r1 r2 r3 HCW
    obtain ⟨r0,r1,r2,r3,_⟩:=((HK.out.trans (Keeps.more hgy)).four HSB.out).four
    go_wp2_with fail
    refine (F7 wc 2 1 (by omega) (by omega) (by omega) (by omega) (by omega)).mono ?_
    rintro e u4 ⟨tb,rfl,ht,htb,hgn⟩
    have HG4:=Ac (Ae hgy hgn)
    have HP4:=Ac (HPC.out.more hgn)
    have HY4:=Ac (hy.out.more hgn)
    have HTB:=Ac ht
    have HYB:=Ac hyb
    clear hgy hgn ht htb hy hyb HPC r0 r1 r2 r3
    go_wp2_with fail
    refine (Gl u4 yb yb tb _ _ _ HY4.out HY4.out HTB.out 6 (by omega) HLQ.out (Lh (by omega))).mono ?_
    rintro e u5 ⟨rfl,hm,hg5⟩
    have HP:=Ac (HP4.out.other HY4.out hg5 (Nat.le_trans HP.out.grown.size HYB.out))
    have HK:=Ac (HK.out.other HG4.out HYB.out HY4.out hg5)
    have HY:=Ac hm
    rw [HQY.out] at HY
    clear hm hg5 HY4 HP4 HTB
    obtain ⟨r0,r1,r2,r3,_⟩:=(HK.out.four HSB.out).four
    go_wp2_with fail
    clear r0 r1 r2 r3
    refine (C5 u5 yb Y HY.out HLY.out).mono ?_
    rintro e w6 ⟨nb',rfl,hnb,hgn⟩
    have HP:=Ac (HP.out.more hgn)
    have HK:=Ac (HK.out.trans (Keeps.more hgn))
    have HY:=Ac (HY.out.more hgn)
    have HNB:=Ac hnb
    clear hnb hgn
    go_wp2_with fail
    refine (Cg W0 w6 pb d An cn Av cv As cs Ag cg Am cm br k _ HP.out J J HJ.out HJ.out nb' (-Y) HNB.out HLN.out (by simp only [List.length_append];omega)).mono ?_
    rintro e w7 ⟨rfl,h1⟩
    have HP:=Ac h1.out.1
    have HK:=Ac (HK.out.trans h1.out.2)
    have HY:=Ac (h1.out.2.pen HY.out)
    obtain ⟨r0,r1,r2,r3,_⟩:=(HK.out.four HSB.out).four
    clear h1
    go_wp2_with fail
    clear r0 r1 r2 r3
    clear HNB
    refine (C5 w7 yb Y HY.out HLY.out).mono ?_
    rintro e w9 ⟨nb',rfl,hnb,hgn⟩
    have HP:=Ac (HP.out.more hgn)
    have HK:=Ac (HK.out.trans (Keeps.more hgn))
    have HY:=Ac (HY.out.more hgn)
    have HNB:=Ac hnb
    clear hnb hgn
    go_wp2_with fail
    refine (G9 W0 w9 pb d An cn Av cv As cs Ag cg Am cm br k _ HP.out J J HJ.out HJ.out nb' (-Y) HNB.out HLN.out (by simp only [List.length_append];omega)).mono ?_
    rintro e w11 ⟨rfl,h1⟩
    have HP:=Ac h1.out.1
    have HK:=Ac (HK.out.trans h1.out.2)
    have HY:=Ac (h1.out.2.pen HY.out)
    obtain ⟨r0,r1,r2,r3,_⟩:=(HK.out.four HSB.out).four
    clear h1
    go_wp2_with fail
    clear r0 r1 r2 r3
    clear HNB
    refine (Be W0 w11 pb d An cn Av cv As cs Ag cg Am cm br k _ HP.out HN.out 0 (by omega) (by omega)).mono ?_
    rintro e w' ⟨rfl,rfl⟩
    go_wp2_with fail
    refine (D6 w11).mono ?_
    rintro e w12 ⟨ob,rfl,hob,hgn⟩
    have HP:=Ac (HP.out.more hgn)
    have HK:=Ac (HK.out.trans (Keeps.more hgn))
    have HY:=Ac (HY.out.more hgn)
    have HOB:=Ac hob
    clear hob hgn
    go_wp2_with fail
    refine (C5 w12 ob 1 HOB.out Dd).mono ?_
    rintro e w13 ⟨nb',rfl,hnb,hgn⟩
    have HP:=Ac (HP.out.more hgn)
    have HK:=Ac (HK.out.trans (Keeps.more hgn))
    have HY:=Ac (HY.out.more hgn)
    have HNB:=Ac hnb
    clear hnb hgn
    go_wp2_with fail
    refine (G9 W0 w13 pb d An cn Av cv As cs Ag cg Am cm br k _ HP.out J (d.at 0) HJ.out (HI.out 0) nb' (-1) HNB.out Hu (by simp only [List.length_append];omega)).mono ?_
    rintro e w14 ⟨rfl,h1⟩
    have HP:=Ac h1.out.1
    have HK:=Ac (HK.out.trans h1.out.2)
    have HY:=Ac (h1.out.2.pen HY.out)
    obtain ⟨r0,r1,r2,r3,_⟩:=(HK.out.four HSB.out).four
    clear h1
    go_wp2_with fail
    clear r0 r1 r2 r3
    clear HNB HOB
    refine (Be W0 w14 pb d An cn Av cv As cs Ag cg Am cm br k _ HP.out HN.out 1 (by omega) (by omega)).mono ?_
    rintro e w' ⟨rfl,rfl⟩
    go_wp2_with fail
    refine (D6 w14).mono ?_
    rintro e w15 ⟨ob,rfl,hob,hgn⟩
    have HP:=Ac (HP.out.more hgn)
    have HK:=Ac (HK.out.trans (Keeps.more hgn))
    have HY:=Ac (HY.out.more hgn)
    have HOB:=Ac hob
    clear hob hgn
    go_wp2_with fail
    refine (G9 W0 w15 pb d An cn Av cv As cs Ag cg Am cm br k _ HP.out J (d.at 1) HJ.out (HI.out 1) ob 1 HOB.out Dd (by simp only [List.length_append];omega)).mono ?_
    rintro e w16 ⟨rfl,h1⟩
    go_wp2_with fail
    go_end0
    exact ⟨rfl,Ac ⟨by rw [←HFIN.out];exact h1.out.1,HGW.out.trans (HK.out.trans h1.out.2)⟩⟩
end
end Go.Proofs.YtmfmfpmkgmkgiaaGreatDoor
