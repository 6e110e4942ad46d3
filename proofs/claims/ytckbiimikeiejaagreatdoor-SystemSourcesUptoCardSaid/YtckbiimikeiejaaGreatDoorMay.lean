/- StB StC StD StE. -/
import Derived.Test.YtckbiimikeiejaaGreatDoorMal
import Derived.Test.YtckbiimikeiejaaGreatDoorMai
import Derived.Deep.RegionLaw
import Derived.Deep.DrawnRows
set_option linter.unusedVariables false
set_option linter.unusedSimpArgs false
set_option maxHeartbeats 40000000
namespace Go.Proofs.YtckbiimikeiejaaGreatDoor
section
open Go.RowKit Go.Maps
open Rat
set_option maxRecDepth 100000 in
theorem Oa (W0 w:World) (pb:Nat) (d:DevP) (An:Option Addr) (cn:Nat) (Av:Option Addr) (cv:Nat) (As:Option Addr) (cs:Nat) (Ag:Option Addr) (cg:Nat) (Am:Option Addr) (cm:Nat) (br:List Int) (k:Int) (L:List StampP) (h:PenS W0 w pb d An cn Av cv As cs Ag cg Am cm br k L) (kind row col:Int) (ik:I64 kind) (ir:I64 row) (ic:I64 col) (vb:Nat) (q:Rat) (hq:RatB w vb q) (lq:LimQ q 1099511627776) (hL:L.length≤100000000) :
  Calls Tryz.prog 213 #[.pointer (some ⟨pb,0,none⟩),.int .i64 kind,.int .i64 row,.int .i64 col,.pointer (some ⟨vb,0,none⟩)] w fun e w'=>e=.returned (.tuple #[])∧Hid (PenS W0 w' pb d An cn Av cv As cs Ag cg Am cm br k (L++put1 kind row col q)∧Keeps w w')∧w'.cell? ⟨pb,13,none⟩=w.cell? ⟨pb,13,none⟩:=by
 by_cases hg:row<0∨col<0
 ·have hp:put1 kind row col q=[]:=by unfold put1;rw [if_pos hg]
  have HP:Hid (PenS W0 w pb d An cn Av cv As cs Ag cg Am cm br k (L++put1 kind row col q)):=Ac (by rw [hp,List.append_nil];exact h)
  clear h hp
  by_cases hr:row<0
  ·go_enter Tryz.func213,Tryz.ntmps213
   go_wp2_with fail
   try simp only [Exit.inBlock,Exit.then]
   refine bodyPost_ret (results_none rfl _ _ _) rfl ?_
   exact ⟨rfl,Ac ⟨HP.out,Keeps.refl _⟩,rfl⟩
  ·have hc:col<0:=by omega
   go_enter Tryz.func213,Tryz.ntmps213
   go_wp2_with fail
   try simp only [Exit.inBlock,Exit.then]
   refine bodyPost_ret (results_none rfl _ _ _) rfl ?_
   exact ⟨rfl,Ac ⟨HP.out,Keeps.refl _⟩,rfl⟩
 ·have hr:¬ row<0:=by omega
  have hc:¬ col<0:=by omega
  have hp:put1 kind row col q=[⟨kind,row,col,q⟩]:=by unfold put1;rw [if_neg hg]
  have HP:=Ac hp
  have H:=Ac h
  obtain ⟨Ab,nb,cb,lv,xs,hbr,hblk,hown,hst,hne⟩:=h.pen
  obtain ⟨A,c,rfl⟩:=hown.form
  have hsb:W0.heap.size≤w.heap.size:=h.grown.size
  have hplt:=hblk.lt
  have c15:w.cell? ⟨pb,15,none⟩=some (.slice A L.length c):=hblk.cell 15
  have f15:=hblk.free 15
  have HBLK:=Ac hblk
  have HOWN:=Ac hown
  have HST:=Ac hst
  have HNE:=Ac hne
  have HBR:=Ac hbr
  clear hp h hbr hblk hown hst hne hg
  go_enter Tryz.func213,Tryz.ntmps213
  go_wp2_with fail
  have hL88:(L.length+1)*88≤140737488355328:=by omega
  have henter:∀ args w,(callFunc 167 args).run Tryz.prog w=.ok (.enter 167 args) w:=enters_of Tryz.func167 (by kernel_rfl) rfl
  have hFR:∀ W,w.grownBy W none→Calls Tryz.prog 167 #[.pointer (some ⟨vb,0,none⟩)] W fun e w'=>∃ v,e=.returned v∧(∃ A1 n1 c1 A2 n2 c2,v=.agg #[.bool (decide (q.num<0)),.slice A1 n1 c1,.bool false,.slice A2 n2 c2]∧StampR w' [.int .i64 kind,.int .i64 row,.int .i64 col,.bool (decide (q.num<0)),.slice A1 n1 c1,.bool false,.slice A2 n2 c2] ⟨kind,row,col,q⟩∧w.grownBy w' none):=fun W hW=>(E7 W vb q (hq.more hW) lq).mono fun e w' h=>by
   obtain ⟨v1,v2,rfl,hn1,hn2,hf1,hf2,hg1⟩:=h
   obtain ⟨A1,n1,c1,rfl⟩:=hn1.ctor
   obtain ⟨A2,n2,c2,rfl⟩:=hn2.ctor
   exact ⟨_,rfl,A1,n1,c1,A2,n2,c2,rfl,⟨ik,ir,ic,_,_,_,_,_,_,rfl,hn1,hn2⟩,Ae hW hg1⟩
  have HFR:=Ac hFR
  have HQ:=Ac hq
  have HENT:=Ac henter
  clear hFR hq henter
  go_region_law (first
   | (refine Fo (by rfl) 167 (.tmp 24) _ (by rfl) (.pointer (some ⟨vb,0,none⟩)) (by rfl) HENT.out _ (HFR.out _ (Ai _ _)) ?_;rintro v w1 ⟨A1,n1,c1,A2,n2,c2,rfl,hsr,hgw1⟩;have HSR:=Ac hsr;clear hsr;have hsw1:=hgw1.size;have c15:=Aj hgw1 c15 (by simp);have c15a:∀ o,(w1.alloc o).cell? ⟨pb,15,none⟩=some (.slice A L.length c):=(fun o=>((HBLK.out.more hgw1).more (Af _ _ _)).cell 15))
   | (refine V9 (by rfl) (.tmp 20) (.tmp 27) 124 (by rfl) W0.heap.size 128 _ 7 88 Tryz.underlying124 Xk (by rfl) (by omega) (by omega) (.slice A L.length c) L.length xs (by rfl) (HOWN.out.more (Ae hgw1 (Af _ _ _))) w1.heap.size #[.int .i64 kind,.int .i64 row,.int .i64 col,.bool (decide (q.num<0)),.slice A1 n1 c1,.bool false,.slice A2 n2 c2] 128 (0,0) (Bi _ _) (by rfl) (by rfl) HSR.out.noD.2 hL88 (by simp only [World.size_alloc];omega) HSR.out.noD.1 P5 ?_;intro g cap w3 hown3 hgrow hat;have hblk3:=(HBLK.out.more (Ae hgw1 (Af _ _ _))).row hgrow HNE.out;have c15b:=hblk3.cell 15;have f15b:=hblk3.free 15;have H3:=Ac (And.intro hblk3 (And.intro hown3 (And.intro hgrow hat)));clear hblk3 hown3 hgrow hat)
   | (fail))
  all_goals
   go_wp2_with fail
   go_end0
   obtain ⟨hblk3,hown3,hgrow,hat⟩:=H3.out
   exact ⟨rfl,Ac (by rw [HP.out];exact A0m H.out.base H.out.grown H.out.dev HBR.out HOWN.out HST.out HNE.out HBLK.out hgw1 HSR.out hblk3 hown3 hgrow hat),((hblk3.set 15 _).cell 13).trans (HBLK.out.cell 13).symm⟩
theorem Gi (W0 w:World) (pb:Nat) (d:DevP) (An:Option Addr) (cn:Nat) (Av:Option Addr) (cv:Nat) (As:Option Addr) (cs:Nat) (Ag:Option Addr) (cg:Nat) (Am:Option Addr) (cm:Nat) (br:List Int) (k:Int) (L:List StampP) (h:PenS W0 w pb d An cn Av cv As cs Ag cg Am cm br k L) (kind row col:Int) (ik:I64 kind) (ir:I64 row) (ic:I64 col) (vb:Nat) (q:Rat) (hq:RatB w vb q) (lq:LimQ q 1099511627776) (hL:L.length≤100000000) :
  Calls Tryz.prog 213 #[.pointer (some ⟨pb,0,none⟩),.int .i64 kind,.int .i64 row,.int .i64 col,.pointer (some ⟨vb,0,none⟩)] w fun e w'=>e=.returned (.tuple #[])∧Hid (PenS W0 w' pb d An cn Av cv As cs Ag cg Am cm br k (L++put1 kind row col q)∧Keeps w w') :=
 (Oa W0 w pb d An cn Av cv As cs Ag cg Am cm br k L h kind row col ik ir ic vb q hq lq hL).mono fun _ _ h=>⟨h.1,h.2.1⟩
end
section
open Go.RowKit Go.Maps
open Rat
theorem PenS.more {W0 w w':World} {pb:Nat} {d:DevP} {An Av As Ag Am:Option Addr} {cn cv cs cg cm:Nat} {br:List Int} {k:Int} {L:List StampP} (h:PenS W0 w pb d An cn Av cv As cs Ag cg Am cm br k L) (hg:w.grownBy w' none):PenS W0 w' pb d An cn Av cv As cs Ag cg Am cm br k L:=by
 obtain ⟨Ab,nb,cb,lv,xs,h1,h2,h3,h4,h5⟩:=h.pen
 exact ⟨h.base,Ae h.grown hg,h.dev,Ab,nb,cb,lv,xs,h1,h2.more hg,h3.more hg,h4.imp (fun _ _ x=>x.more hg),h5⟩
theorem Fs (L:List StampP) (kind r c:Int) (q:Rat):(L++put1 kind r c q).length≤L.length+1:=by
 unfold put1;split<;>simp
def DevP.at (d:DevP) (i:Nat):Int:=d.nodes.getD i 0-1
def NodesOK (d:DevP):Prop:=∀ i,i<d.nodes.length→0≤d.nodes.getD i 0∧d.nodes.getD i 0≤1000
theorem NodesOK.at {d:DevP} (h:NodesOK d) (i:Nat):-1≤d.at i∧d.at i≤1000:=by
 unfold DevP.at
 by_cases hi:i<d.nodes.length
 ·have:=h i hi;omega
 ·rw [show d.nodes.getD i 0=0 by simp [List.getD,List.getElem?_eq_none (Nat.le_of_not_lt hi)]];omega
theorem NodesOK.i64 {d:DevP} (h:NodesOK d) (i:Nat):I64 (d.at i):=by have:=h.at i;exact ⟨by omega,by omega⟩
set_option maxRecDepth 100000 in
theorem Be (W0 w:World) (pb:Nat) (d:DevP) (An:Option Addr) (cn:Nat) (Av:Option Addr) (cv:Nat) (As:Option Addr) (cs:Nat) (Ag:Option Addr) (cg:Nat) (Am:Option Addr) (cm:Nat) (br:List Int) (k:Int) (L:List StampP) (h:PenS W0 w pb d An cn Av cv As cs Ag cg Am cm br k L) (hn:NodesOK d) (i:Nat) (hi:i<d.nodes.length) (hi8:i<8) :
  Calls Tryz.prog 209 #[.pointer (some ⟨pb,0,none⟩),.int .i64 i] w fun e w'=>e=.returned (.int .i64 (d.at i))∧w=w':=by
 obtain ⟨Ab,nb,cb,lv,xs,h1,h2,h3,h4,h5⟩:=h.pen
 have c2:w.cell? ⟨pb,2,none⟩=some (.slice An d.nodes.length cn):=h2.cell 2
 obtain ⟨b,o,rfl,hI,hc⟩:=(h.dev.nodes.more h.grown).at hi
 have hb:=hn i hi
 have e1:(i:Int)<(d.nodes.length:Int):=by omega
 show Calls _ _ _ _ fun e w'=>e=.returned (.int .i64 (d.nodes.getD i 0-1))∧w=w'
 clear h h1 h2 h3 h4 h5 hn
 generalize d.nodes.getD i 0=x at *
 generalize d.nodes.length=l at *
 go_enter Tryz.func209,Tryz.ntmps209
 go_wp2_with fail
 go_ret
 exact ⟨rfl,rfl⟩
set_option maxRecDepth 100000 in
theorem Da (W0 w:World) (pb:Nat) (d:DevP) (An:Option Addr) (cn:Nat) (Av:Option Addr) (cv:Nat) (As:Option Addr) (cs:Nat) (Ag:Option Addr) (cg:Nat) (Am:Option Addr) (cm:Nat) (br:List Int) (k:Int) (L:List StampP) (h:PenS W0 w pb d An cn Av cv As cs Ag cg Am cm br k L) (hk:0≤k) (hk2:k.toNat<br.length) :
  Calls Tryz.prog 214 #[.pointer (some ⟨pb,0,none⟩)] w fun e w'=>e=.returned (.int .i64 (br.getD k.toNat 0))∧w.grownBy w' none:=by
 obtain ⟨Ab,nb,cb,lv,xs,h1,h2,h3,h4,h5⟩:=h.pen
 obtain ⟨j,rfl⟩:∃ j:Nat,k=j:=⟨k.toNat,by omega⟩
 have c13:w.cell? ⟨pb,13,none⟩=some (.slice Ab nb cb):=h2.cell 13
 have c14:w.cell? ⟨pb,14,none⟩=some (.int .i64 (j:Int)):=h2.cell 14
 simp only [Int.toNat_natCast] at *
 rcases (h1.more h.grown).open with ⟨b,o,c,e,l1,l2,hc⟩ | ⟨_,_,_,_,_,h0⟩
 ·injection e with e1 e2 e3
  subst e1 e2 e3
  rw [D5] at *
  have hcj:=(hc j hk2).trans (J5 br j hk2)
  have e1:(j:Int)<(br.length:Int):=by omega
  have e0:(0:Int)≤(j:Int):=by omega
  clear h h1 h2 h3 h4 h5 hc
  generalize br.getD j 0=x at *
  generalize br.length=l at *
  go_enter Tryz.func214,Tryz.ntmps214
  go_wp2_with fail
  go_quiet (fail)
  go_wp2_with fail
  go_ret
  exact ⟨rfl,Az _ _ _⟩
 ·have:=congrArg List.length h0;rw [D5] at this;simp at this;rw [this] at hk2;simp at hk2
theorem D6 (w:World):Calls Tryz.prog 215 #[] w fun e w'=>∃ b,e=.returned (.pointer (some ⟨b,0,none⟩))∧RatB w' b 1∧w.grownBy w' none:=by
 go_enter Tryz.func215,Tryz.ntmps215
 go_wp2_with fail
 refine (F7 w 1 1 (by omega) (by omega) (by omega) (by omega) (by omega)).mono ?_
 rintro e w1 ⟨b,rfl,hr,hb,hg⟩
 go_wp2_with fail
 go_ret
 exact ⟨b,rfl,hr,hg⟩
theorem C5 (w:World) (vb:Nat) (q:Rat) (hq:RatB w vb q) (lq:LimQ q 1099511627776):Calls Tryz.prog 216 #[.pointer (some ⟨vb,0,none⟩)] w fun e w'=>∃ b,e=.returned (.pointer (some ⟨b,0,none⟩))∧RatB w' b (-q)∧w.grownBy w' none:=by
 have ga:=Af w (.cells #[.bool false,.slice none 0 0,.bool false,.slice none 0 0] 190) none
 have hz:=RatB.new w 190
 have hN:=Nc _ w.heap.size vb 0 q hz (hq.more ga) lq
 have HN:=Ac hN
 clear hN
 go_enter Tryz.func216,Tryz.ntmps216
 go_wp2_with fail
 refine HN.out.mono ?_
 rintro e w1 ⟨rfl,hr,hg⟩
 go_wp2_with fail
 go_ret
 exact ⟨_,rfl,hr,Aw ga hg (Nat.le_refl _)⟩
theorem Rs (W0 w:World) (pb:Nat) (d:DevP) (An:Option Addr) (cn:Nat) (Av:Option Addr) (cv:Nat) (As:Option Addr) (cs:Nat) (Ag:Option Addr) (cg:Nat) (Am:Option Addr) (cm:Nat) (br:List Int) (k:Int) (L:List StampP) (h:PenS W0 w pb d An cn Av cv As cs Ag cg Am cm br k L) (row col:Int) (ir:I64 row) (ic:I64 col) (vb:Nat) (q:Rat) (hq:RatB w vb q) (lq:LimQ q 1099511627776) (hL:L.length≤100000000) :
  Calls Tryz.prog 218 #[.pointer (some ⟨pb,0,none⟩),.int .i64 row,.int .i64 col,.pointer (some ⟨vb,0,none⟩)] w fun e w'=>e=.returned (.tuple #[])∧Hid (PenS W0 w' pb d An cn Av cv As cs Ag cg Am cm br k (L++put1 1 row col q)∧Keeps w w')∧w'.cell? ⟨pb,13,none⟩=w.cell? ⟨pb,13,none⟩:=by
 have hP:=Oa W0 w pb d An cn Av cv As cs Ag cg Am cm br k L h 1 row col ⟨by omega,by omega⟩ ir ic vb q hq lq hL
 have HP:=Ac hP
 clear hP h hq lq
 go_enter Tryz.func218,Tryz.ntmps218
 go_wp2_with fail
 refine HP.out.mono ?_
 rintro e w1 ⟨rfl,hK⟩
 go_wp2_with fail
 go_end0
 exact ⟨rfl,hK⟩
theorem Cg (W0 w:World) (pb:Nat) (d:DevP) (An:Option Addr) (cn:Nat) (Av:Option Addr) (cv:Nat) (As:Option Addr) (cs:Nat) (Ag:Option Addr) (cg:Nat) (Am:Option Addr) (cm:Nat) (br:List Int) (k:Int) (L:List StampP) (h:PenS W0 w pb d An cn Av cv As cs Ag cg Am cm br k L) (row col:Int) (ir:I64 row) (ic:I64 col) (vb:Nat) (q:Rat) (hq:RatB w vb q) (lq:LimQ q 1099511627776) (hL:L.length≤100000000) :
  Calls Tryz.prog 218 #[.pointer (some ⟨pb,0,none⟩),.int .i64 row,.int .i64 col,.pointer (some ⟨vb,0,none⟩)] w fun e w'=>e=.returned (.tuple #[])∧Hid (PenS W0 w' pb d An cn Av cv As cs Ag cg Am cm br k (L++put1 1 row col q)∧Keeps w w') :=
 (Rs W0 w pb d An cn Av cv As cs Ag cg Am cm br k L h row col ir ic vb q hq lq hL).mono fun _ _ h=>⟨h.1,h.2.1⟩
end
section
open Go.RowKit Go.Maps
open Rat
theorem Keeps.pen {w w':World} (h:Keeps w w') {b:Nat} {q:Rat} (hq:RatB w b q):RatB w' b q:=h.1 b q hq
theorem Keeps.four {w w':World} (h:Keeps w w') {b:Nat} {u0 u1 u2 u3:Value} (hq:Blk w b #[u0,u1,u2,u3]):Blk w' b #[u0,u1,u2,u3]:=h.2.1 b _ rfl hq
theorem Keeps.nums {w w':World} (h:Keeps w w') {v:Value} {xs:List Nat} (hq:Nums w v xs):Nums w' v xs:=h.2.2 v xs hq
theorem Dd:LimQ 1 1099511627776:=⟨by decide,by decide⟩
def C7 (a0 a1 c dd:Int) (q:Rat):List StampP:=put1 1 a0 c q++(put1 1 a0 dd (-q)++(put1 1 a1 c (-q)++put1 1 a1 dd q))
set_option maxRecDepth 100000 in
theorem Fr (W0 w:World) (pb:Nat) (d:DevP) (An:Option Addr) (cn:Nat) (Av:Option Addr) (cv:Nat) (As:Option Addr) (cs:Nat) (Ag:Option Addr) (cg:Nat) (Am:Option Addr) (cm:Nat) (br:List Int) (k:Int) (L:List StampP) (h:PenS W0 w pb d An cn Av cv As cs Ag cg Am cm br k L) (hn:NodesOK d) (h2:2≤d.nodes.length) (c dd:Int) (ic:I64 c) (id':I64 dd) (yb:Nat) (q:Rat) (hq:RatB w yb q) (lq:LimQ q 1099511627776) (hL:L.length≤1000000) :
  Calls Tryz.prog 208 #[.pointer (some ⟨pb,0,none⟩),.int .i64 c,.int .i64 dd,.pointer (some ⟨yb,0,none⟩)] w fun e w'=>e=.returned (.tuple #[])∧Hid (PenS W0 w' pb d An cn Av cv As cs Ag cg Am cm br k (L++C7 (d.at 0) (d.at 1) c dd q)∧Keeps w w'):=by
 have HP:=Ac h
 have HN:=Ac hn
 have HY:=Ac hq
 have HLQ:=Ac lq
 have HLN:=Ac lq.neg
 have HK:=Ac (Keeps.refl w)
 have HI:=Ac (fun i=>hn.i64 i)
 have l1:=Fs L 1 (d.at 0) c q
 have l2:=Fs (L++put1 1 (d.at 0) c q) 1 (d.at 0) dd (-q)
 have l3:=Fs (L++put1 1 (d.at 0) c q++put1 1 (d.at 0) dd (-q)) 1 (d.at 1) c (-q)
 have hfin:L++put1 1 (d.at 0) c q++put1 1 (d.at 0) dd (-q)++put1 1 (d.at 1) c (-q)++put1 1 (d.at 1) dd q=L++C7 (d.at 0) (d.at 1) c dd q:=by unfold C7;simp only [List.append_assoc]
 have HFIN:=Ac hfin
 clear h hn hq lq hfin
 go_enter Tryz.func208,Tryz.ntmps208
 go_wp2_with fail
 refine (Be W0 w pb d An cn Av cv As cs Ag cg Am cm br k _ HP.out HN.out 0 (by omega) (by omega)).mono ?_
 rintro e w' ⟨rfl,rfl⟩
 go_wp2_with fail
 refine (Cg W0 w pb d An cn Av cv As cs Ag cg Am cm br k _ HP.out (d.at 0) c (HI.out 0) ic yb q HY.out HLQ.out (by omega)).mono ?_
 rintro e w1 ⟨rfl,h1⟩
 have HP:=Ac h1.out.1
 have HY:=Ac (h1.out.2.pen HY.out)
 have HK:=Ac (HK.out.trans h1.out.2)
 clear h1
 go_wp2_with fail
 refine (Be W0 w1 pb d An cn Av cv As cs Ag cg Am cm br k _ HP.out HN.out 0 (by omega) (by omega)).mono ?_
 rintro e w' ⟨rfl,rfl⟩
 go_wp2_with fail
 refine (C5 w1 yb q HY.out HLQ.out).mono ?_
 rintro e w2 ⟨nb',rfl,hnb,hgn⟩
 have HP:=Ac (HP.out.more hgn)
 have HY:=Ac (HY.out.more hgn)
 have HK:=Ac (HK.out.trans (Keeps.more hgn))
 have HNB:=Ac hnb
 clear hnb
 go_wp2_with fail
 refine (Cg W0 w2 pb d An cn Av cv As cs Ag cg Am cm br k _ HP.out (d.at 0) dd (HI.out 0) id' nb' (-q) HNB.out HLN.out (by omega)).mono ?_
 rintro e w3 ⟨rfl,h1⟩
 have HP:=Ac h1.out.1
 have HY:=Ac (h1.out.2.pen HY.out)
 have HK:=Ac (HK.out.trans h1.out.2)
 clear h1 HNB
 go_wp2_with fail
 refine (Be W0 w3 pb d An cn Av cv As cs Ag cg Am cm br k _ HP.out HN.out 1 (by omega) (by omega)).mono ?_
 rintro e w' ⟨rfl,rfl⟩
 go_wp2_with fail
 refine (C5 w3 yb q HY.out HLQ.out).mono ?_
 rintro e w4 ⟨nb',rfl,hnb,hgn⟩
 have HP:=Ac (HP.out.more hgn)
 have HY:=Ac (HY.out.more hgn)
 have HK:=Ac (HK.out.trans (Keeps.more hgn))
 have HNB:=Ac hnb
 clear hnb
 go_wp2_with fail
 refine (Cg W0 w4 pb d An cn Av cv As cs Ag cg Am cm br k _ HP.out (d.at 1) c (HI.out 1) ic nb' (-q) HNB.out HLN.out (by omega)).mono ?_
 rintro e w5 ⟨rfl,h1⟩
 have HP:=Ac h1.out.1
 have HY:=Ac (h1.out.2.pen HY.out)
 have HK:=Ac (HK.out.trans h1.out.2)
 clear h1 HNB
 go_wp2_with fail
 refine (Be W0 w5 pb d An cn Av cv As cs Ag cg Am cm br k _ HP.out HN.out 1 (by omega) (by omega)).mono ?_
 rintro e w' ⟨rfl,rfl⟩
 go_wp2_with fail
 refine (Cg W0 w5 pb d An cn Av cv As cs Ag cg Am cm br k _ HP.out (d.at 1) dd (HI.out 1) id' yb q HY.out HLQ.out (by omega)).mono ?_
 rintro e w6 ⟨rfl,h1⟩
 go_wp2_with fail
 go_end0
 exact ⟨rfl,Ac ⟨by rw [←HFIN.out];exact h1.out.1,HK.out.trans h1.out.2⟩⟩
theorem Hu:LimQ (-1) 1099511627776:=Dd.neg
def outL (a0 a1 j:Int):List StampP:=put1 1 a0 j 1++put1 1 a1 j (-1)
def Bw (a0 a1 j:Int):List StampP:=put1 1 j a0 1++put1 1 j a1 (-1)
set_option maxRecDepth 100000 in
theorem Dz (W0 w:World) (pb:Nat) (d:DevP) (An:Option Addr) (cn:Nat) (Av:Option Addr) (cv:Nat) (As:Option Addr) (cs:Nat) (Ag:Option Addr) (cg:Nat) (Am:Option Addr) (cm:Nat) (br:List Int) (k:Int) (L:List StampP) (h:PenS W0 w pb d An cn Av cv As cs Ag cg Am cm br k L) (hn:NodesOK d) (h2:2≤d.nodes.length) (hk0:0≤k) (hk1:k.toNat<br.length) (ij:I64 (br.getD k.toNat 0)) (hL:L.length≤1000000) :
  Calls Tryz.prog 211 #[.pointer (some ⟨pb,0,none⟩)] w fun e w'=>e=.returned (.tuple #[])∧Hid (PenS W0 w' pb d An cn Av cv As cs Ag cg Am cm br k (L++outL (d.at 0) (d.at 1) (br.getD k.toNat 0))∧Keeps w w'):=by
 have HP:=Ac h
 have HN:=Ac hn
 have HK:=Ac (Keeps.refl w)
 have HI:=Ac (fun i=>hn.i64 i)
 have HJ:=Ac ij
 have l1:=Fs L 1 (d.at 0) (br.getD k.toNat 0) 1
 have hfin:L++put1 1 (d.at 0) (br.getD k.toNat 0) 1++put1 1 (d.at 1) (br.getD k.toNat 0) (-1)=L++outL (d.at 0) (d.at 1) (br.getD k.toNat 0):=by unfold outL;simp only [List.append_assoc]
 have HFIN:=Ac hfin
 have hown:=fun w' L' (h':PenS W0 w' pb d An cn Av cv As cs Ag cg Am cm br k L')=>Da W0 w' pb d An cn Av cv As cs Ag cg Am cm br k L' h' hk0 hk1
 have HOWN:=Ac hown
 clear h hn hfin ij hown
 generalize br.getD k.toNat 0=J at *
 go_enter Tryz.func211,Tryz.ntmps211
 go_wp2_with fail
 refine (Be W0 w pb d An cn Av cv As cs Ag cg Am cm br k _ HP.out HN.out 0 (by omega) (by omega)).mono ?_
 rintro e w' ⟨rfl,rfl⟩
 go_wp2_with fail
 refine (HOWN.out w _ HP.out).mono ?_
 rintro e w1 ⟨rfl,hgn⟩
 have HP:=Ac (HP.out.more hgn)
 have HK:=Ac (HK.out.trans (Keeps.more hgn))
 clear hgn
 go_wp2_with fail
 refine (D6 w1).mono ?_
 rintro e w2 ⟨ob,rfl,hob,hgn⟩
 have HP:=Ac (HP.out.more hgn)
 have HK:=Ac (HK.out.trans (Keeps.more hgn))
 have HOB:=Ac hob
 clear hob hgn
 go_wp2_with fail
 refine (Cg W0 w2 pb d An cn Av cv As cs Ag cg Am cm br k _ HP.out (d.at 0) J (HI.out 0) HJ.out ob 1 HOB.out Dd (by omega)).mono ?_
 rintro e w3 ⟨rfl,h1⟩
 have HP:=Ac h1.out.1
 have HK:=Ac (HK.out.trans h1.out.2)
 clear h1
 go_wp2_with fail
 clear HOB
 refine (Be W0 w3 pb d An cn Av cv As cs Ag cg Am cm br k _ HP.out HN.out 1 (by omega) (by omega)).mono ?_
 rintro e w' ⟨rfl,rfl⟩
 go_wp2_with fail
 refine (HOWN.out w3 _ HP.out).mono ?_
 rintro e w4 ⟨rfl,hgn⟩
 have HP:=Ac (HP.out.more hgn)
 have HK:=Ac (HK.out.trans (Keeps.more hgn))
 clear hgn
 go_wp2_with fail
 refine (D6 w4).mono ?_
 rintro e w5 ⟨ob,rfl,hob,hgn⟩
 have HP:=Ac (HP.out.more hgn)
 have HK:=Ac (HK.out.trans (Keeps.more hgn))
 have HOB:=Ac hob
 clear hob hgn
 go_wp2_with fail
 refine (C5 w5 ob 1 HOB.out Dd).mono ?_
 rintro e w6 ⟨nb',rfl,hnb,hgn⟩
 have HP:=Ac (HP.out.more hgn)
 have HK:=Ac (HK.out.trans (Keeps.more hgn))
 have HNB:=Ac hnb
 clear hnb hgn
 go_wp2_with fail
 refine (Cg W0 w6 pb d An cn Av cv As cs Ag cg Am cm br k _ HP.out (d.at 1) J (HI.out 1) HJ.out nb' (-1) HNB.out Hu (by omega)).mono ?_
 rintro e w7 ⟨rfl,h1⟩
 go_wp2_with fail
 go_end0
 exact ⟨rfl,Ac ⟨by rw [←HFIN.out];exact h1.out.1,HK.out.trans h1.out.2⟩⟩
set_option maxRecDepth 100000 in
theorem Cv (W0 w:World) (pb:Nat) (d:DevP) (An:Option Addr) (cn:Nat) (Av:Option Addr) (cv:Nat) (As:Option Addr) (cs:Nat) (Ag:Option Addr) (cg:Nat) (Am:Option Addr) (cm:Nat) (br:List Int) (k:Int) (L:List StampP) (h:PenS W0 w pb d An cn Av cv As cs Ag cg Am cm br k L) (hn:NodesOK d) (h2:2≤d.nodes.length) (hk0:0≤k) (hk1:k.toNat<br.length) (ij:I64 (br.getD k.toNat 0)) (hL:L.length≤1000000) :
  Calls Tryz.prog 212 #[.pointer (some ⟨pb,0,none⟩)] w fun e w'=>e=.returned (.tuple #[])∧Hid (PenS W0 w' pb d An cn Av cv As cs Ag cg Am cm br k (L++Bw (d.at 0) (d.at 1) (br.getD k.toNat 0))∧Keeps w w'):=by
 have HP:=Ac h
 have HN:=Ac hn
 have HK:=Ac (Keeps.refl w)
 have HI:=Ac (fun i=>hn.i64 i)
 have HJ:=Ac ij
 have l1:=Fs L 1 (br.getD k.toNat 0) (d.at 0) 1
 have hfin:L++put1 1 (br.getD k.toNat 0) (d.at 0) 1++put1 1 (br.getD k.toNat 0) (d.at 1) (-1)=L++Bw (d.at 0) (d.at 1) (br.getD k.toNat 0):=by unfold Bw;simp only [List.append_assoc]
 have HFIN:=Ac hfin
 have hown:=fun w' L' (h':PenS W0 w' pb d An cn Av cv As cs Ag cg Am cm br k L')=>Da W0 w' pb d An cn Av cv As cs Ag cg Am cm br k L' h' hk0 hk1
 have HOWN:=Ac hown
 clear h hn hfin ij hown
 generalize br.getD k.toNat 0=J at *
 go_enter Tryz.func212,Tryz.ntmps212
 go_wp2_with fail
 refine (HOWN.out w _ HP.out).mono ?_
 rintro e w1 ⟨rfl,hgn⟩
 have HP:=Ac (HP.out.more hgn)
 have HK:=Ac (HK.out.trans (Keeps.more hgn))
 clear hgn
 go_wp2_with fail
 refine (Be W0 w1 pb d An cn Av cv As cs Ag cg Am cm br k _ HP.out HN.out 0 (by omega) (by omega)).mono ?_
 rintro e w' ⟨rfl,rfl⟩
 go_wp2_with fail
 refine (D6 w1).mono ?_
 rintro e w2 ⟨ob,rfl,hob,hgn⟩
 have HP:=Ac (HP.out.more hgn)
 have HK:=Ac (HK.out.trans (Keeps.more hgn))
 have HOB:=Ac hob
 clear hob hgn
 go_wp2_with fail
 refine (Cg W0 w2 pb d An cn Av cv As cs Ag cg Am cm br k _ HP.out J (d.at 0) HJ.out (HI.out 0) ob 1 HOB.out Dd (by omega)).mono ?_
 rintro e w3 ⟨rfl,h1⟩
 have HP:=Ac h1.out.1
 have HK:=Ac (HK.out.trans h1.out.2)
 clear h1
 go_wp2_with fail
 clear HOB
 refine (HOWN.out w3 _ HP.out).mono ?_
 rintro e w4 ⟨rfl,hgn⟩
 have HP:=Ac (HP.out.more hgn)
 have HK:=Ac (HK.out.trans (Keeps.more hgn))
 clear hgn
 go_wp2_with fail
 refine (Be W0 w4 pb d An cn Av cv As cs Ag cg Am cm br k _ HP.out HN.out 1 (by omega) (by omega)).mono ?_
 rintro e w' ⟨rfl,rfl⟩
 go_wp2_with fail
 refine (D6 w4).mono ?_
 rintro e w5 ⟨ob,rfl,hob,hgn⟩
 have HP:=Ac (HP.out.more hgn)
 have HK:=Ac (HK.out.trans (Keeps.more hgn))
 have HOB:=Ac hob
 clear hob hgn
 go_wp2_with fail
 refine (C5 w5 ob 1 HOB.out Dd).mono ?_
 rintro e w6 ⟨nb',rfl,hnb,hgn⟩
 have HP:=Ac (HP.out.more hgn)
 have HK:=Ac (HK.out.trans (Keeps.more hgn))
 have HNB:=Ac hnb
 clear hnb hgn
 go_wp2_with fail
 refine (Cg W0 w6 pb d An cn Av cv As cs Ag cg Am cm br k _ HP.out J (d.at 1) HJ.out (HI.out 1) nb' (-1) HNB.out Hu (by omega)).mono ?_
 rintro e w7 ⟨rfl,h1⟩
 go_wp2_with fail
 go_end0
 exact ⟨rfl,Ac ⟨by rw [←HFIN.out];exact h1.out.1,HK.out.trans h1.out.2⟩⟩
end
section
open Go.RowKit Go.Maps
open Rat
set_option maxRecDepth 100000 in
theorem Bh (w:World) (m e:Int) (h:NumOK m e) :
  Calls Tryz.prog 207 #[.agg #[.int .i64 m,.int .i64 e]] w fun o w'=>∃ b,o=.returned (.pointer (some ⟨b,0,none⟩))∧RatB w' b (numQ m e)∧w.heap.size≤b∧w.grownBy w' none:=by
 have hlq:=Ba h
 have gw:=Af w (.cells #[.int .i64 m,.int .i64 e] 25) none
 have hB:=Blk.new w #[.int .i64 m,.int .i64 e] 25
 have hs1:(w.alloc (.cells #[.int .i64 m,.int .i64 e] 25)).heap.size=w.heap.size+1:=by simp
 obtain ⟨b0,b1,_⟩:=hB.two
 have HOK:=Ac h
 have hb:=h.bounds
 clear h hB
 go_enter Tryz.func207,Tryz.ntmps207
 go_wp2_with fail
 generalize w.alloc (.cells #[.int .i64 m,.int .i64 e] 25)=wa at *
 generalize hs:w.heap.size=s at *
 refine (Ib wa m e HOK.out).mono ?_
 rintro o w1 ⟨v,rfl,hv,hg1⟩
 obtain ⟨A1,n1,c1,A2,n2,c2,rfl,hn1,hn2⟩:=hv.forms
 have hC:=Blk.new w1 #[.bool (decide ((numQ m e).num<0)),.slice A1 n1 c1,.bool false,.slice A2 n2 c2] 94
 have g2:=Af w1 (.cells #[.bool (decide ((numQ m e).num<0)),.slice A1 n1 c1,.bool false,.slice A2 n2 c2] 94) none
 have s1:=hg1.size
 have s2:=g2.size
 have hD:Hid (sg (decide ((numQ m e).num<0)) (val 4294967296 (digs (numQ m e).num)) /. sg false (val 4294967296 (digs ((numQ m e).den:Int)))=numQ m e):=Ac (Hn _)
 obtain ⟨d0,d1,d2,d3,_⟩:=hC.four
 have l1:=hlq.1
 have l2:=hlq.2
 go_wp2_with fail
 generalize w1.alloc (.cells #[.bool (decide ((numQ m e).num<0)),.slice A1 n1 c1,.bool false,.slice A2 n2 c2] 94)=w2 at *
 refine (Et w2 _ false _ _ (digs (numQ m e).num) (digs ((numQ m e).den:Int)) (hn1.more g2) (hn2.more g2) (Nat.le_trans l1 (by omega)) (Nat.le_trans l2 (by omega)) (Iq _)).mono ?_
 rintro o w3 ⟨b3,rfl,hr3,hb3,hg3⟩
 rw [hD.out] at hr3
 go_wp2
 go_ret
 exact ⟨b3,rfl,hr3,by omega,Ae gw (Ae hg1 (Ae g2 hg3))⟩
theorem PenS.cells {W0 w:World} {pb:Nat} {d:DevP} {An Av As Ag Am:Option Addr} {cn cv cs cg cm:Nat} {br:List Int} {k:Int} {L:List StampP} (h:PenS W0 w pb d An cn Av cv As cs Ag cg Am cm br k L) :
  w.cell? ⟨pb,0,none⟩=some (.int .u8 d.kind)∧w.cell? ⟨pb,4,none⟩=some (.int .i64 d.val.1)∧w.cell? ⟨pb,5,none⟩=some (.int .i64 d.val.2)∧w.cell? ⟨pb,14,none⟩=some (.int .i64 k):=by
 obtain ⟨Ab,nb,cb,lv,xs,h1,h2,h3,h4,h5⟩:=h.pen
 exact ⟨h2.cell 0,h2.cell 4,h2.cell 5,h2.cell 14⟩
theorem Pf {m d:Int} (hd:d≠0) (hm:m≠0):m /. d≠0:=by
 intro h
 have h2:m /. d=0 /. 1:=by rw [h];rfl
 rw [Rat.divInt_eq_divInt_iff hd (by decide)] at h2
 simp at h2
 exact hm h2
theorem Er {m e:Int} (h:NumOK m e) (h0:m≠0):numQ m e≠0:=by
 unfold numQ
 split
 ·exact Pf (Lb _) h0
 ·exact Pf (by decide) (Int.mul_ne_zero (Lb _) h0)
set_option maxRecDepth 100000 in
theorem A1e (W0 w:World) (pb:Nat) (d:DevP) (An:Option Addr) (cn:Nat) (Av:Option Addr) (cv:Nat) (As:Option Addr) (cs:Nat) (Ag:Option Addr) (cg:Nat) (Am:Option Addr) (cm:Nat) (br:List Int) (k:Int) (L:List StampP) (h:PenS W0 w pb d An cn Av cv As cs Ag cg Am cm br k L) (hn:NodesOK d) (h2:2≤d.nodes.length) (hkd:d.kind=114) (hv:NumOK d.val.1 d.val.2) (hv0:d.val.1≠0) (hL:L.length≤1000) (A1:Option Addr) (n1 c1:Nat) (A2:Option Addr) (n2 c2:Nat) (s1 s2 me mode method t1 t2 seg:Int) :
  Calls Tryz.prog 138 #[.pointer (some ⟨pb,0,none⟩),.agg #[.slice A1 n1 c1,.slice A2 n2 c2,.int .i64 s1,.int .i64 s2,.int .i64 me],.agg #[.int .i64 mode,.int .i64 method,.int .i64 t1,.int .i64 t2],.int .i64 seg] w fun e w'=>e=.returned (.tuple #[])∧Hid (PenS W0 w' pb d An cn Av cv As cs Ag cg Am cm br k (L++C7 (d.at 0) (d.at 1) (d.at 0) (d.at 1) (numQ d.val.1 d.val.2)⁻¹)∧Keeps w w'):=by
 have tk:(d.kind==114)=true:=by rw [beq_iff_eq];exact hkd
 have HNE:=Ac (Er hv hv0)
 have HLQ:=Ac (Ba hv)
 have HLI:=Ac ((Ba hv).inv (Er hv hv0))
 clear hkd hv0
 have gw:=Ae (Ae (Af w (.cells #[.slice A1 n1 c1,.slice A2 n2 c2,.int .i64 s1,.int .i64 s2,.int .i64 me] 27) none) (Af (w.alloc (.cells #[.slice A1 n1 c1,.slice A2 n2 c2,.int .i64 s1,.int .i64 s2,.int .i64 me] 27)) (.cells #[.int .i64 mode,.int .i64 method,.int .i64 t1,.int .i64 t2] 29) none)) (Af ((w.alloc (.cells #[.slice A1 n1 c1,.slice A2 n2 c2,.int .i64 s1,.int .i64 s2,.int .i64 me] 27)).alloc (.cells #[.int .i64 mode,.int .i64 method,.int .i64 t1,.int .i64 t2] 29)) (.cells #[.bool false,.slice none 0 0,.bool false,.slice none 0 0] 190) none)
 have HP:=Ac (h.more gw)
 have HN:=Ac hn
 have HK:=Ac (Keeps.more gw)
 have HI:=Ac (fun i=>hn.i64 i)
 have HV:=Ac hv
 have hvb:=hv.bounds
 obtain ⟨c0,c4,c5,c14⟩:=HP.out.cells
 have hNV:=Bd (((w.alloc (.cells #[.slice A1 n1 c1,.slice A2 n2 c2,.int .i64 s1,.int .i64 s2,.int .i64 me] 27)).alloc (.cells #[.int .i64 mode,.int .i64 method,.int .i64 t1,.int .i64 t2] 29)).alloc (.cells #[.bool false,.slice none 0 0,.bool false,.slice none 0 0] 190)) d.val.1 d.val.2 (by omega) (by omega) (by omega) (by omega)
 rw [show decide (NumOK d.val.1 d.val.2)=true from decide_eq_true hv] at hNV
 have HNV:=Ac hNV
 clear h hn hv hNV
 go_enter Tryz.func138,Tryz.ntmps138
 go_wp2_with fail
 generalize ((w.alloc (.cells #[.slice A1 n1 c1,.slice A2 n2 c2,.int .i64 s1,.int .i64 s2,.int .i64 me] 27)).alloc (.cells #[.int .i64 mode,.int .i64 method,.int .i64 t1,.int .i64 t2] 29)).alloc (.cells #[.bool false,.slice none 0 0,.bool false,.slice none 0 0] 190)=wa at *
 refine HNV.out.mono ?_
 rintro e w1 ⟨rfl,hg1⟩
 have HP:=Ac (HP.out.more hg1)
 have HK:=Ac (HK.out.trans (Keeps.more hg1))
 clear c0 c4 c5 c14 HNV gw hg1
 obtain ⟨c0,c4,c5,c14⟩:=HP.out.cells
 go_wp2_with fail
 refine (Bh w1 d.val.1 d.val.2 HV.out).mono ?_
 rintro e w2 ⟨xb,rfl,hx,hxb,hg2⟩
 have HP:=Ac (HP.out.more hg2)
 have HK:=Ac (HK.out.trans (Keeps.more hg2))
 have HX:=Ac hx
 clear c0 c4 c5 c14 hx hg2 hxb
 obtain ⟨c0,c4,c5,c14⟩:=HP.out.cells
 go_wp2_with fail
 refine (Be W0 w2 pb d An cn Av cv As cs Ag cg Am cm br k _ HP.out HN.out 0 (by omega) (by omega)).mono ?_
 rintro e w' ⟨rfl,rfl⟩
 go_wp2_with fail
 refine (Be W0 w2 pb d An cn Av cv As cs Ag cg Am cm br k _ HP.out HN.out 1 (by omega) (by omega)).mono ?_
 rintro e w' ⟨rfl,rfl⟩
 have ga:=Af w2 (.cells #[.bool false,.slice none 0 0,.bool false,.slice none 0 0] 190) none
 have HZ:=Ac (RatB.new w2 190)
 have HX:=Ac (HX.out.more ga)
 have HGA:=Ac ga
 clear ga c0 c4 c5 c14
 go_wp2_with fail
 generalize w2.alloc (.cells #[.bool false,.slice none 0 0,.bool false,.slice none 0 0] 190)=wb at *
 refine (W6 wb w2.heap.size xb 0 _ HZ.out HX.out HNE.out (HLQ.out.mono (by omega))).mono ?_
 rintro e w3 ⟨rfl,hy,hg3⟩
 have HG3:=Ac (Aw HGA.out hg3 (Nat.le_refl _))
 have HP:=Ac (HP.out.more HG3.out)
 have HK:=Ac (HK.out.trans (Keeps.more HG3.out))
 have HY:=Ac hy
 clear hy hg3
 go_wp2_with fail
 refine (Fr W0 w3 pb d An cn Av cv As cs Ag cg Am cm br k _ HP.out HN.out h2 (d.at 0) (d.at 1) (HI.out 0) (HI.out 1) w2.heap.size _ HY.out (HLI.out.mono (by omega)) (by omega)).mono ?_
 rintro e w4 ⟨rfl,h1⟩
 go_wp2_with fail
 go_end0
 exact ⟨rfl,Ac ⟨h1.out.1,HK.out.trans h1.out.2⟩⟩
set_option maxRecDepth 100000 in
theorem A1h (W0 w:World) (pb:Nat) (d:DevP) (An:Option Addr) (cn:Nat) (Av:Option Addr) (cv:Nat) (As:Option Addr) (cs:Nat) (Ag:Option Addr) (cg:Nat) (Am:Option Addr) (cm:Nat) (br:List Int) (k:Int) (L:List StampP) (h:PenS W0 w pb d An cn Av cv As cs Ag cg Am cm br k L) (hn:NodesOK d) (h2:2≤d.nodes.length) (hkd:d.kind=118) (hv:NumOK d.val.1 d.val.2) (hL:L.length≤1000) (hk0:0≤k) (hk1:k.toNat<br.length) (ij:I64 (br.getD k.toNat 0)) (ik:I64 k) (A1:Option Addr) (n1 c1:Nat) (A2:Option Addr) (n2 c2:Nat) (s1 s2 me mode method t1 t2 seg:Int) :
  Calls Tryz.prog 138 #[.pointer (some ⟨pb,0,none⟩),.agg #[.slice A1 n1 c1,.slice A2 n2 c2,.int .i64 s1,.int .i64 s2,.int .i64 me],.agg #[.int .i64 mode,.int .i64 method,.int .i64 t1,.int .i64 t2],.int .i64 seg] w fun e w'=>e=.returned (.tuple #[])∧Hid (PenS W0 w' pb d An cn Av cv As cs Ag cg Am cm br k (L++(outL (d.at 0) (d.at 1) (br.getD k.toNat 0)++(Bw (d.at 0) (d.at 1) (br.getD k.toNat 0)++put1 3 (br.getD k.toNat 0) k 1)))∧Keeps w w'):=by
 have tk1:(d.kind==114)=false:=by rw [beq_eq_false_iff_ne];omega
 have tk2:(d.kind==103)=false:=by rw [beq_eq_false_iff_ne];omega
 have tk:(d.kind==118)=true:=by rw [beq_iff_eq];exact hkd
 have hown:=fun w' L' (h':PenS W0 w' pb d An cn Av cv As cs Ag cg Am cm br k L')=>Da W0 w' pb d An cn Av cv As cs Ag cg Am cm br k L' h' hk0 hk1
 have hout:=fun w' L' (h':PenS W0 w' pb d An cn Av cv As cs Ag cg Am cm br k L') (hl:L'.length≤1000000)=>Dz W0 w' pb d An cn Av cv As cs Ag cg Am cm br k L' h' hn h2 hk0 hk1 ij hl
 have hacr:=fun w' L' (h':PenS W0 w' pb d An cn Av cv As cs Ag cg Am cm br k L') (hl:L'.length≤1000000)=>Cv W0 w' pb d An cn Av cv As cs Ag cg Am cm br k L' h' hn h2 hk0 hk1 ij hl
 have HOWN:=Ac hown
 have HOUT:=Ac hout
 have HACR:=Ac hacr
 have HJ:=Ac ij
 have HIK:=Ac ik
 clear hkd hown hout hacr ij ik
 generalize br.getD k.toNat 0=J at *
 have l1:(L++outL (d.at 0) (d.at 1) J).length≤L.length+2:=by unfold outL put1;split<;>split<;>simp
 have l2:(L++outL (d.at 0) (d.at 1) J++Bw (d.at 0) (d.at 1) J).length≤L.length+4:=by
  rw [List.length_append];have:(Bw (d.at 0) (d.at 1) J).length≤2:=by unfold Bw put1;split<;>split<;>simp
  omega
 have hfin:L++outL (d.at 0) (d.at 1) J++Bw (d.at 0) (d.at 1) J++put1 3 J k 1=L++(outL (d.at 0) (d.at 1) J++(Bw (d.at 0) (d.at 1) J++put1 3 J k 1)):=by simp only [List.append_assoc]
 have HFIN:=Ac hfin
 clear hfin
 have gw:=Ae (Ae (Af w (.cells #[.slice A1 n1 c1,.slice A2 n2 c2,.int .i64 s1,.int .i64 s2,.int .i64 me] 27) none) (Af (w.alloc (.cells #[.slice A1 n1 c1,.slice A2 n2 c2,.int .i64 s1,.int .i64 s2,.int .i64 me] 27)) (.cells #[.int .i64 mode,.int .i64 method,.int .i64 t1,.int .i64 t2] 29) none)) (Af ((w.alloc (.cells #[.slice A1 n1 c1,.slice A2 n2 c2,.int .i64 s1,.int .i64 s2,.int .i64 me] 27)).alloc (.cells #[.int .i64 mode,.int .i64 method,.int .i64 t1,.int .i64 t2] 29)) (.cells #[.bool false,.slice none 0 0,.bool false,.slice none 0 0] 190) none)
 have HP:=Ac (h.more gw)
 have HN:=Ac hn
 have HK:=Ac (Keeps.more gw)
 have HI:=Ac (fun i=>hn.i64 i)
 have HV:=Ac hv
 have hvb:=hv.bounds
 obtain ⟨c0,c4,c5,c14⟩:=HP.out.cells
 have hNV:=Bd (((w.alloc (.cells #[.slice A1 n1 c1,.slice A2 n2 c2,.int .i64 s1,.int .i64 s2,.int .i64 me] 27)).alloc (.cells #[.int .i64 mode,.int .i64 method,.int .i64 t1,.int .i64 t2] 29)).alloc (.cells #[.bool false,.slice none 0 0,.bool false,.slice none 0 0] 190)) d.val.1 d.val.2 (by omega) (by omega) (by omega) (by omega)
 rw [show decide (NumOK d.val.1 d.val.2)=true from decide_eq_true hv] at hNV
 have HNV:=Ac hNV
 clear h hn hv hNV
 go_enter Tryz.func138,Tryz.ntmps138
 go_wp2_with fail
 generalize ((w.alloc (.cells #[.slice A1 n1 c1,.slice A2 n2 c2,.int .i64 s1,.int .i64 s2,.int .i64 me] 27)).alloc (.cells #[.int .i64 mode,.int .i64 method,.int .i64 t1,.int .i64 t2] 29)).alloc (.cells #[.bool false,.slice none 0 0,.bool false,.slice none 0 0] 190)=wa at *
 refine HNV.out.mono ?_
 rintro e w1 ⟨rfl,hg1⟩
 have HP:=Ac (HP.out.more hg1)
 have HK:=Ac (HK.out.trans (Keeps.more hg1))
 clear c0 c4 c5 c14 HNV gw hg1
 obtain ⟨c0,c4,c5,c14⟩:=HP.out.cells
 go_wp2_with fail
 refine (Bh w1 d.val.1 d.val.2 HV.out).mono ?_
 rintro e w2 ⟨xb,rfl,hx,hxb,hg2⟩
 have HP:=Ac (HP.out.more hg2)
 have HK:=Ac (HK.out.trans (Keeps.more hg2))
 have HX:=Ac hx
 clear c0 c4 c5 c14 hx hg2 hxb
 obtain ⟨c0,c4,c5,c14⟩:=HP.out.cells
 go_wp2_with fail
 refine (HOUT.out w2 _ HP.out (by omega)).mono ?_
 rintro e w3 ⟨rfl,h1⟩
 have HP:=Ac h1.out.1
 have HK:=Ac (HK.out.trans h1.out.2)
 clear h1 c0 c4 c5 c14
 go_wp2_with fail
 refine (HACR.out w3 _ HP.out (by omega)).mono ?_
 rintro e w4 ⟨rfl,h1⟩
 have HP:=Ac h1.out.1
 have HK:=Ac (HK.out.trans h1.out.2)
 clear h1
 obtain ⟨c0,c4,c5,c14⟩:=HP.out.cells
 have hcw:∀ w',w4.grownBy w' none→w'.cell? ⟨pb,14,none⟩=some (.int .i64 k):=fun w' h=>Aj h c14 (by simp)
 have HCW:=Ac hcw
 clear c0 c4 c5 hcw
 go_wp2_with fail
 go_region_held3 (fun w'=>w'.cell? ⟨pb,14,none⟩=some (.int .i64 k)) (first | assumption | ((refine HCW.out _ ?_;(focus ((repeat (first | assumption | exact Al _ _ | exact Ai _ _ | exact Af _ _ _ | refine Ae ?_ (Af _ _ _) | refine Ae ?_ (Ai _ _) | refine Ae ?_ (by assumption)));done))))) (first
  | (go_at_call 214;refine (HOWN.out _ _ (HP.out.more (by (focus ((repeat (first | assumption | exact Al _ _ | exact Ai _ _ | exact Af _ _ _ | refine Ae ?_ (Af _ _ _) | refine Ae ?_ (Ai _ _) | refine Ae ?_ (by assumption)));done))))).mono ?_;rintro e w5 ⟨rfl,hg5⟩)
  | (go_at_call 215;refine (D6 _).mono ?_;rintro e w6 ⟨ob,rfl,hob,hg6⟩)
  | (go_at_call 213;refine (Gi W0 _ pb d An cn Av cv As cs Ag cg Am cm br k _ (HP.out.more (by (focus ((repeat (first | assumption | exact Al _ _ | exact Ai _ _ | exact Af _ _ _ | refine Ae ?_ (Af _ _ _) | refine Ae ?_ (Ai _ _) | refine Ae ?_ (by assumption)));done)))) 3 J k ⟨by omega,by omega⟩ HJ.out HIK.out ob 1 (hob.more (by (focus ((repeat (first | assumption | exact Al _ _ | exact Ai _ _ | exact Af _ _ _ | refine Ae ?_ (Af _ _ _) | refine Ae ?_ (Ai _ _) | refine Ae ?_ (by assumption)));done)))) Dd (by omega)).mono ?_;rintro e w7 ⟨rfl,h7⟩;have c14':=h7.out.1.cells.2.2.2))
 all_goals
  go_wp2_with fail
  go_end0
  exact ⟨rfl,Ac ⟨by rw [←HFIN.out];exact h7.out.1,HK.out.trans ((Keeps.more (show w4.grownBy _ none by (focus ((repeat (first | assumption | exact Al _ _ | exact Ai _ _ | exact Af _ _ _ | refine Ae ?_ (Af _ _ _) | refine Ae ?_ (Ai _ _) | refine Ae ?_ (by assumption)));done)))).trans h7.out.2)⟩⟩
end
end Go.Proofs.YtckbiimikeiejaaGreatDoor
