/- StJ StK StQ SumL. -/
import Derived.Test.YtmfmfpmkgmkgiaaGreatDoorMaw
import Derived.Deep.DeepCutAuto
import Derived.Test.YtmfmfpmkgmkgiaaGreatDoorMat
import Derived.Test.YtmfmfpmkgmkgiaaGreatDoorMau
set_option linter.unusedVariables false
set_option linter.unusedSimpArgs false
set_option maxHeartbeats 40000000
namespace Go.Proofs.YtmfmfpmkgmkgiaaGreatDoor
section
open Go.RowKit Go.Maps
open Rat
set_option maxRecDepth 100000 in
theorem A1d (W0 w:World) (pb:Nat) (d:DevP) (An:Option Addr) (cn:Nat) (Av:Option Addr) (cv:Nat) (As:Option Addr) (cs:Nat) (Ag:Option Addr) (cg:Nat) (Am:Option Addr) (cm:Nat) (br:List Int) (k:Int) (L:List StampP) (h:PenS W0 w pb d An cn Av cv As cs Ag cg Am cm br k L) (hn:NodesOK d) (h2:2≤d.nodes.length) (hkd:d.kind=105) (hv:NumOK d.val.1 d.val.2) (hL:L.length≤1000) (ik:I64 k) (A1:Option Addr) (n1 c1:Nat) (A2:Option Addr) (n2 c2:Nat) (s1 s2 me mode method t1 t2 seg:Int) :
  Calls Tryz.prog 95 #[.pointer (some ⟨pb,0,none⟩),.agg #[.slice A1 n1 c1,.slice A2 n2 c2,.int .i64 s1,.int .i64 s2,.int .i64 me],.agg #[.int .i64 mode,.int .i64 method,.int .i64 t1,.int .i64 t2],.int .i64 seg] w fun e w'=>e=.returned (.tuple #[])∧Hid (PenS W0 w' pb d An cn Av cv As cs Ag cg Am cm br k (L++(put1 3 (d.at 0) k (-1)++put1 3 (d.at 1) k 1))∧Keeps w w'):=by
 have tk1:=kne (show d.kind≠114 by omega)
 have tk2:=kne (show d.kind≠103 by omega)
 have tk3:=kne (show d.kind≠118 by omega)
 have tk:(d.kind==105)=true:=by rw [beq_iff_eq];exact hkd
 have HIK:=Ac ik
 clear hkd ik
 have l1:=Fs L 3 (d.at 0) k (-1)
 have hfin:L++put1 3 (d.at 0) k (-1)++put1 3 (d.at 1) k 1=L++(put1 3 (d.at 0) k (-1)++put1 3 (d.at 1) k 1):=by simp only [List.append_assoc]
 have HFIN:=Ac hfin
 clear hfin
 have gw:=Ae (Ae (Af w (.cells #[.slice A1 n1 c1,.slice A2 n2 c2,.int .i64 s1,.int .i64 s2,.int .i64 me] 27) none) (Af (w.alloc (.cells #[.slice A1 n1 c1,.slice A2 n2 c2,.int .i64 s1,.int .i64 s2,.int .i64 me] 27)) (.cells #[.int .i64 mode,.int .i64 method,.int .i64 t1,.int .i64 t2] 29) none)) (Af ((w.alloc (.cells #[.slice A1 n1 c1,.slice A2 n2 c2,.int .i64 s1,.int .i64 s2,.int .i64 me] 27)).alloc (.cells #[.int .i64 mode,.int .i64 method,.int .i64 t1,.int .i64 t2] 29)) (.cells #[.bool false,.slice none 0 0,.bool false,.slice none 0 0] 178) none)
 have HP:=Ac (h.more gw)
 have HN:=Ac hn
 have HK:=Ac (Keeps.more gw)
 have HI:=Ac (fun i=>hn.i64 i)
 have HV:=Ac hv
 have hvb:=hv.bounds
 obtain ⟨c0,c4,c5,c14⟩:=HP.out.cells
 have hNV:=Bd (((w.alloc (.cells #[.slice A1 n1 c1,.slice A2 n2 c2,.int .i64 s1,.int .i64 s2,.int .i64 me] 27)).alloc (.cells #[.int .i64 mode,.int .i64 method,.int .i64 t1,.int .i64 t2] 29)).alloc (.cells #[.bool false,.slice none 0 0,.bool false,.slice none 0 0] 178)) d.val.1 d.val.2 (by omega) (by omega) (by omega) (by omega)
 rw [show decide (NumOK d.val.1 d.val.2)=true from decide_eq_true hv] at hNV
 have HNV:=Ac hNV
 clear h hn hv hNV
 go_enter Tryz.func95,Tryz.ntmps95
 go_wp2_with fail
 generalize ((w.alloc (.cells #[.slice A1 n1 c1,.slice A2 n2 c2,.int .i64 s1,.int .i64 s2,.int .i64 me] 27)).alloc (.cells #[.int .i64 mode,.int .i64 method,.int .i64 t1,.int .i64 t2] 29)).alloc (.cells #[.bool false,.slice none 0 0,.bool false,.slice none 0 0] 178)=wa at *
 refine HNV.out.mono ?_
 rintro e w1 ⟨rfl,hg1⟩
 have HP:=Ac (HP.out.more hg1)
 have HK:=Ac (HK.out.trans (Keeps.more hg1))
 clear c0 c4 c5 c14 HNV gw hg1
 obtain ⟨c0,c4,c5,c14⟩:=HP.out.cells
 go_wp2_with fail
 refine (Bh w1 d.val.1 d.val.2 HV.out).mono ?_
 rintro e w2 ⟨xb,rfl,hx,hxb,hg2⟩
 have HP:=Ac (HP.out.more hg2)
 have HK:=Ac (HK.out.trans (Keeps.more hg2))
 have HX:=Ac hx
 clear c0 c4 c5 c14 hx hg2 hxb
 obtain ⟨c0,c4,c5,c14⟩:=HP.out.cells
 have HCW:=Ac (fun w' (h:w2.grownBy w' none)=>Aj h c14 (by simp))
 go_upto_region 14 with (fail)
 go_cut [] (fun wx=>Hid (PenS W0 wx pb d An cn Av cv As cs Ag cg Am cm br k (L++put1 3 (d.at 0) k (-1))∧Keeps w2 wx))
 case first =>
  go_region_held3 (fun w'=>w'.cell? ⟨pb,14,none⟩=some (.int .i64 k)) (first | assumption | ((refine HCW.out _ ?_;(focus ((repeat (first | assumption | exact Al _ _ | exact Ai _ _ | exact Af _ _ _ | refine Ae ?_ (Af _ _ _) | refine Ae ?_ (Ai _ _) | refine Ae ?_ (by assumption)));done))))) (first
   | (go_at_call 151;refine (Be W0 _ pb d An cn Av cv As cs Ag cg Am cm br k _ (HP.out.more (by (focus ((repeat (first | assumption | exact Al _ _ | exact Ai _ _ | exact Af _ _ _ | refine Ae ?_ (Af _ _ _) | refine Ae ?_ (Ai _ _) | refine Ae ?_ (by assumption)));done)))) HN.out 0 (by omega) (by omega)).mono ?_;rintro e w' ⟨rfl,rfl⟩)
   | (go_at_call 157;refine (D6 _).mono ?_;rintro e w6 ⟨ob,rfl,hob,hg6⟩)
   | (go_at_call 158;refine (C5 _ ob 1 (hob.more (by (focus ((repeat (first | assumption | exact Al _ _ | exact Ai _ _ | exact Af _ _ _ | refine Ae ?_ (Af _ _ _) | refine Ae ?_ (Ai _ _) | refine Ae ?_ (by assumption)));done)))) Dd).mono ?_;rintro e w5 ⟨nb',rfl,hnb,hg5⟩)
   | (go_at_call 155;refine (Gi W0 _ pb d An cn Av cv As cs Ag cg Am cm br k _ (HP.out.more (by (focus ((repeat (first | assumption | exact Al _ _ | exact Ai _ _ | exact Af _ _ _ | refine Ae ?_ (Af _ _ _) | refine Ae ?_ (Ai _ _) | refine Ae ?_ (by assumption)));done)))) 3 (d.at 0) k ⟨by omega,by omega⟩ (HI.out 0) HIK.out nb' (-1) (hnb.more (by (focus ((repeat (first | assumption | exact Al _ _ | exact Ai _ _ | exact Af _ _ _ | refine Ae ?_ (Af _ _ _) | refine Ae ?_ (Ai _ _) | refine Ae ?_ (by assumption)));done)))) Hu (by omega)).mono ?_;rintro e w7 ⟨rfl,h7⟩;have c14':=h7.out.1.cells.2.2.2))
  all_goals
   go_wp2_with fail
   go_meet
   exact Ac ⟨h7.out.1,(Keeps.more (show w2.grownBy _ none by (focus ((repeat (first | assumption | exact Al _ _ | exact Ai _ _ | exact Af _ _ _ | refine Ae ?_ (Af _ _ _) | refine Ae ?_ (Ai _ _) | refine Ae ?_ (by assumption)));done)))).trans h7.out.2⟩
 case rest =>
  have h1:=hcut
  have HP:=Ac h1.out.1
  have HK:=Ac (HK.out.trans h1.out.2)
  clear h1 hcut HX c14 HCW
  obtain ⟨c0,c4,c5,c14⟩:=HP.out.cells
  have HCW:=Ac (fun w' (h:wc.grownBy w' none)=>Aj h c14 (by simp))
  clear c0 c4 c5
  go_wp2_with fail
  go_region_held3 (fun w'=>w'.cell? ⟨pb,14,none⟩=some (.int .i64 k)) (first | assumption | ((refine HCW.out _ ?_;(focus ((repeat (first | assumption | exact Al _ _ | exact Ai _ _ | exact Af _ _ _ | refine Ae ?_ (Af _ _ _) | refine Ae ?_ (Ai _ _) | refine Ae ?_ (by assumption)));done))))) (first
   | (go_at_call 151;refine (Be W0 _ pb d An cn Av cv As cs Ag cg Am cm br k _ (HP.out.more (by (focus ((repeat (first | assumption | exact Al _ _ | exact Ai _ _ | exact Af _ _ _ | refine Ae ?_ (Af _ _ _) | refine Ae ?_ (Ai _ _) | refine Ae ?_ (by assumption)));done)))) HN.out 1 (by omega) (by omega)).mono ?_;rintro e w' ⟨rfl,rfl⟩)
   | (go_at_call 157;refine (D6 _).mono ?_;rintro e w6 ⟨ob,rfl,hob,hg6⟩)
   | (go_at_call 155;refine (Gi W0 _ pb d An cn Av cv As cs Ag cg Am cm br k _ (HP.out.more (by (focus ((repeat (first | assumption | exact Al _ _ | exact Ai _ _ | exact Af _ _ _ | refine Ae ?_ (Af _ _ _) | refine Ae ?_ (Ai _ _) | refine Ae ?_ (by assumption)));done)))) 3 (d.at 1) k ⟨by omega,by omega⟩ (HI.out 1) HIK.out ob 1 (hob.more (by (focus ((repeat (first | assumption | exact Al _ _ | exact Ai _ _ | exact Af _ _ _ | refine Ae ?_ (Af _ _ _) | refine Ae ?_ (Ai _ _) | refine Ae ?_ (by assumption)));done)))) Dd (by omega)).mono ?_;rintro e w7 ⟨rfl,h7⟩;have c14':=h7.out.1.cells.2.2.2))
  all_goals
   go_wp2_with fail
   go_end0
   exact ⟨rfl,Ac ⟨by rw [←HFIN.out];exact h7.out.1,HK.out.trans ((Keeps.more (show wc.grownBy _ none by (focus ((repeat (first | assumption | exact Al _ _ | exact Ai _ _ | exact Af _ _ _ | refine Ae ?_ (Af _ _ _) | refine Ae ?_ (Ai _ _) | refine Ae ?_ (by assumption)));done)))).trans h7.out.2)⟩⟩
end
section
open Go.RowKit Go.Maps
open Rat
theorem PenS.refc' {W0 w:World} {pb:Nat} {d:DevP} {An Av As Ag Am:Option Addr} {cn cv cs cg cm:Nat} {br:List Int} {k:Int} {L:List StampP} (h:PenS W0 w pb d An cn Av cv As cs Ag cg Am cm br k L) {j:Nat} (hj:j<br.length) {b o c:Nat} {R r:Int}
  (h13:w.cell? ⟨pb,13,none⟩=some (.slice (some ⟨b,o,none⟩) br.length c)) (hr:d.ref=r) (hR:br.getD j 0=R):w.cell? ⟨pb,3,none⟩=some (.int .i64 r)∧w.cell? ⟨pb,13,none⟩=some (.slice (some ⟨b,o,none⟩) br.length c)∧w.cell? ⟨b,o+j,none⟩=some (.int .i64 R):=by
 obtain ⟨b',o',c',e3,e13,ej⟩:=h.refc hj
 rw [h13] at e13
 injection e13 with e13
 injection e13 with e1 e2 e3'
 injection e1 with e1
 injection e1 with e1 e4 e5
 subst e1 e4
 exact ⟨hr▸e3,h13,hR▸ej⟩
set_option maxRecDepth 100000 in
theorem A1c (W0 w:World) (pb:Nat) (d:DevP) (An:Option Addr) (cn:Nat) (Av:Option Addr) (cv:Nat) (As:Option Addr) (cs:Nat) (Ag:Option Addr) (cg:Nat) (Am:Option Addr) (cm:Nat) (br:List Int) (k:Int) (L:List StampP) (h:PenS W0 w pb d An cn Av cv As cs Ag cg Am cm br k L) (hn:NodesOK d) (h2:2≤d.nodes.length) (hkd:d.kind=104) (hv:NumOK d.val.1 d.val.2) (hL:L.length≤1000) (hk0:0≤k) (hk1:k.toNat<br.length) (ij:I64 (br.getD k.toNat 0)) (j:Nat) (hj:d.ref=(j:Int)) (hjb:j<br.length) (hb:br.length≤1000) (ir:I64 (br.getD j 0)) (A1:Option Addr) (n1 c1:Nat) (A2:Option Addr) (n2 c2:Nat) (s1 s2 me mode method t1 t2 seg:Int) :
  Calls Tryz.prog 95 #[.pointer (some ⟨pb,0,none⟩),.agg #[.slice A1 n1 c1,.slice A2 n2 c2,.int .i64 s1,.int .i64 s2,.int .i64 me],.agg #[.int .i64 mode,.int .i64 method,.int .i64 t1,.int .i64 t2],.int .i64 seg] w fun e w'=>e=.returned (.tuple #[])∧Hid (PenS W0 w' pb d An cn Av cv As cs Ag cg Am cm br k (L++(outL (d.at 0) (d.at 1) (br.getD k.toNat 0)++(Bw (d.at 0) (d.at 1) (br.getD k.toNat 0)++put1 1 (br.getD k.toNat 0) (br.getD j 0) (-(numQ d.val.1 d.val.2)))))∧Keeps w w'):=by
 have tk1:=kne (show d.kind≠114 by omega)
 have tk2:=kne (show d.kind≠103 by omega)
 have tk3:=kne (show d.kind≠118 by omega)
 have tk4:=kne (show d.kind≠105 by omega)
 have tk5:=kne (show d.kind≠101 by omega)
 have tk6:=kne (show d.kind≠102 by omega)
 have tk:(d.kind==104)=true:=by rw [beq_iff_eq];exact hkd
 have HLQ:=Ac ((Ba hv).mono (show 3≤1099511627776 by omega))
 have HLN:=Ac ((Ba hv).mono (show 3≤1099511627776 by omega)).neg
 have hown:=fun w' L' (h':PenS W0 w' pb d An cn Av cv As cs Ag cg Am cm br k L')=>Da W0 w' pb d An cn Av cv As cs Ag cg Am cm br k L' h' hk0 hk1
 have hout:=fun w' L' (h':PenS W0 w' pb d An cn Av cv As cs Ag cg Am cm br k L') (hl:L'.length≤1000000)=>Dz W0 w' pb d An cn Av cv As cs Ag cg Am cm br k L' h' hn (by omega) hk0 hk1 ij hl
 have hacr:=fun w' L' (h':PenS W0 w' pb d An cn Av cv As cs Ag cg Am cm br k L') (hl:L'.length≤1000000)=>Cv W0 w' pb d An cn Av cv As cs Ag cg Am cm br k L' h' hn (by omega) hk0 hk1 ij hl
 have HOWN:=Ac hown
 have HOUT:=Ac hout
 have HACR:=Ac hacr
 have HJ:=Ac ij
 have HIR:=Ac ir
 have HJR:=Ac hj
 clear hkd hown hout hacr ij ir hj
 generalize br.getD k.toNat 0=J at *
 generalize hRe:br.getD j 0=R at *
 have HRE:=Ac hRe
 clear hRe
 have l1:=Eb (d.at 0) (d.at 1) J
 have l2:=Cw (d.at 0) (d.at 1) J
 have hfin:L++outL (d.at 0) (d.at 1) J++Bw (d.at 0) (d.at 1) J++put1 1 J R (-(numQ d.val.1 d.val.2))=L++(outL (d.at 0) (d.at 1) J++(Bw (d.at 0) (d.at 1) J++put1 1 J R (-(numQ d.val.1 d.val.2)))):=by simp only [List.append_assoc]
 have HFIN:=Ac hfin
 clear hfin
 have gw:=Ae (Ae (Af w (.cells #[.slice A1 n1 c1,.slice A2 n2 c2,.int .i64 s1,.int .i64 s2,.int .i64 me] 27) none) (Af (w.alloc (.cells #[.slice A1 n1 c1,.slice A2 n2 c2,.int .i64 s1,.int .i64 s2,.int .i64 me] 27)) (.cells #[.int .i64 mode,.int .i64 method,.int .i64 t1,.int .i64 t2] 29) none)) (Af ((w.alloc (.cells #[.slice A1 n1 c1,.slice A2 n2 c2,.int .i64 s1,.int .i64 s2,.int .i64 me] 27)).alloc (.cells #[.int .i64 mode,.int .i64 method,.int .i64 t1,.int .i64 t2] 29)) (.cells #[.bool false,.slice none 0 0,.bool false,.slice none 0 0] 178) none)
 have HP:=Ac (h.more gw)
 have HN:=Ac hn
 have HK:=Ac (Keeps.more gw)
 have HI:=Ac (fun i=>hn.i64 i)
 have HV:=Ac hv
 have hvb:=hv.bounds
 obtain ⟨c0,c4,c5,c14⟩:=HP.out.cells
 have hNV:=Bd (((w.alloc (.cells #[.slice A1 n1 c1,.slice A2 n2 c2,.int .i64 s1,.int .i64 s2,.int .i64 me] 27)).alloc (.cells #[.int .i64 mode,.int .i64 method,.int .i64 t1,.int .i64 t2] 29)).alloc (.cells #[.bool false,.slice none 0 0,.bool false,.slice none 0 0] 178)) d.val.1 d.val.2 (by omega) (by omega) (by omega) (by omega)
 rw [show decide (NumOK d.val.1 d.val.2)=true from decide_eq_true hv] at hNV
 have HNV:=Ac hNV
 clear h hn hv hNV
 go_enter Tryz.func95,Tryz.ntmps95
 go_wp2_with fail
 generalize ((w.alloc (.cells #[.slice A1 n1 c1,.slice A2 n2 c2,.int .i64 s1,.int .i64 s2,.int .i64 me] 27)).alloc (.cells #[.int .i64 mode,.int .i64 method,.int .i64 t1,.int .i64 t2] 29)).alloc (.cells #[.bool false,.slice none 0 0,.bool false,.slice none 0 0] 178)=wa at *
 refine HNV.out.mono ?_
 rintro e w1 ⟨rfl,hg1⟩
 have HP:=Ac (HP.out.more hg1)
 have HK:=Ac (HK.out.trans (Keeps.more hg1))
 clear c0 c4 c5 c14 HNV gw hg1
 obtain ⟨c0,c4,c5,c14⟩:=HP.out.cells
 go_wp2_with fail
 refine (Bh w1 d.val.1 d.val.2 HV.out).mono ?_
 rintro e w2 ⟨xb,rfl,hx,hxb,hg2⟩
 have HP:=Ac (HP.out.more hg2)
 have HK:=Ac (HK.out.trans (Keeps.more hg2))
 have HX:=Ac hx
 clear c0 c4 c5 c14 hx hg2 hxb
 obtain ⟨c0,c4,c5,c14⟩:=HP.out.cells
 go_wp2_with fail
 refine (HOUT.out w2 _ HP.out (by omega)).mono ?_
 rintro e w3 ⟨rfl,h1⟩
 have HP:=Ac h1.out.1
 have HK:=Ac (HK.out.trans h1.out.2)
 have HX:=Ac (h1.out.2.pen HX.out)
 clear h1
 go_wp2_with fail
 clear c0 c4 c5 c14
 refine (HACR.out w3 _ HP.out (by rw [List.length_append];omega)).mono ?_
 rintro e w4 ⟨rfl,h1⟩
 have HP:=Ac h1.out.1
 have HK:=Ac (HK.out.trans h1.out.2)
 have HX:=Ac (h1.out.2.pen HX.out)
 clear h1
 obtain ⟨bb,ob,cb,c3,c13,cj⟩:=HP.out.refc hjb
 rw [HJR.out] at c3
 rw [HRE.out] at cj
 have e1:(j:Int)<(br.length:Int):=by omega
 have e0:(0:Int)≤(j:Int):=by omega
 have HCW:=Ac (fun w' (h:w4.grownBy w' none)=>And.intro (Aj h c3 (by simp)) (And.intro (Aj h c13 (by simp)) (Aj h cj (by simp))))
 have l3:(L++outL (d.at 0) (d.at 1) J++Bw (d.at 0) (d.at 1) J).length≤2000:=by rw [List.length_append,List.length_append];omega
 go_wp2_with fail
 go_region_held3 (fun w'=>w'.cell? ⟨pb,3,none⟩=some (.int .i64 (j:Int))∧w'.cell? ⟨pb,13,none⟩=some (.slice (some ⟨bb,ob,none⟩) br.length cb)∧w'.cell? ⟨bb,ob+j,none⟩=some (.int .i64 R)) (first | exact ⟨c3',c13',cj'⟩ | (refine HCW.out _ ?_;(focus ((repeat (first | assumption | exact Al _ _ | exact Ai _ _ | exact Af _ _ _ | refine Ae ?_ (Af _ _ _) | refine Ae ?_ (Ai _ _) | refine Ae ?_ (by assumption)));done)))) (first
  | (go_at_call 156;refine (HOWN.out _ _ (HP.out.more (by (focus ((repeat (first | assumption | exact Al _ _ | exact Ai _ _ | exact Af _ _ _ | refine Ae ?_ (Af _ _ _) | refine Ae ?_ (Ai _ _) | refine Ae ?_ (by assumption)));done))))).mono ?_;rintro e w5 ⟨rfl,hg5⟩)
  | (go_at_call 158;refine (C5 _ xb _ (HX.out.more (by (focus ((repeat (first | assumption | exact Al _ _ | exact Ai _ _ | exact Af _ _ _ | refine Ae ?_ (Af _ _ _) | refine Ae ?_ (Ai _ _) | refine Ae ?_ (by assumption)));done)))) HLQ.out).mono ?_;rintro e w6 ⟨nb',rfl,hnb,hg6⟩)
  | (go_at_call 160;refine (Rs W0 _ pb d An cn Av cv As cs Ag cg Am cm br k _ (HP.out.more (by (focus ((repeat (first | assumption | exact Al _ _ | exact Ai _ _ | exact Af _ _ _ | refine Ae ?_ (Af _ _ _) | refine Ae ?_ (Ai _ _) | refine Ae ?_ (by assumption)));done)))) J R HJ.out HIR.out nb' _ (hnb.more (by (focus ((repeat (first | assumption | exact Al _ _ | exact Ai _ _ | exact Af _ _ _ | refine Ae ?_ (Af _ _ _) | refine Ae ?_ (Ai _ _) | refine Ae ?_ (by assumption)));done)))) HLN.out (by omega)).mono ?_;rintro e w7 ⟨rfl,h7,h13⟩;obtain ⟨c3',c13',cj'⟩:=h7.out.1.refc' hjb (h13.trans (HCW.out _ (by (focus ((repeat (first | assumption | exact Al _ _ | exact Ai _ _ | exact Af _ _ _ | refine Ae ?_ (Af _ _ _) | refine Ae ?_ (Ai _ _) | refine Ae ?_ (by assumption)));done)))).2.1) HJR.out HRE.out))
 all_goals
  go_wp2_with fail
  go_end0
  exact ⟨rfl,Ac ⟨by rw [←HFIN.out];exact h7.out.1,HK.out.trans ((Keeps.more (show w4.grownBy _ none by (focus ((repeat (first | assumption | exact Al _ _ | exact Ai _ _ | exact Af _ _ _ | refine Ae ?_ (Af _ _ _) | refine Ae ?_ (Ai _ _) | refine Ae ?_ (by assumption)));done)))).trans h7.out.2)⟩⟩
end
section
open Go.RowKit Go.Maps
open Rat
set_option maxRecDepth 100000 in
theorem Qi (w:World) (f:Bf) (A1:Option Addr) (c1:Nat) (A2:Option Addr) (c2:Nat) (hf:FlatAt w f A1 c1 A2 c2) (hG:GlobOK w) (h0:Cq f=0)
  (mode method:Int) (step:Int × Int) (i1:I64 step.1) (i2:I64 step.2) (hs:setB mode method step=true) (k:Nat) (hk:k<f.devs.length) (seg:Int) (hb:Bp (f.devs.getD k dev0).kind=true→0≤seg∧seg<((f.devs.getD k dev0).mg.length:Int)) :
  Calls Tryz.prog 94 #[.agg #[.slice A1 f.nodes.length c1,.slice A2 f.devs.length c2,.int .i64 f.step.1,.int .i64 f.step.2,.int .i64 f.method],.int .i64 (k:Int),.agg #[.int .i64 mode,.int .i64 method,.int .i64 step.1,.int .i64 step.2],.int .i64 seg] w fun e w'=>∃ W0 pb An cn Av cv As cs Ag cg Am cm,e=.returned (.tuple #[.pointer (some ⟨pb,0,none⟩),.int .i64 0])∧PenS W0 w' pb (f.devs.getD k dev0) An cn Av cv As cs Ag cg Am cm (brs f.devs ((f.nodes.length:Int)-1) f.devs.length) k []∧w.grownBy w' none∧w.grownBy W0 none:=by
 have g1:=Af w (.cells #[.slice A1 f.nodes.length c1,.slice A2 f.devs.length c2,.int .i64 f.step.1,.int .i64 f.step.2,.int .i64 f.method] 27) none
 have g2:=Af (w.alloc (.cells #[.slice A1 f.nodes.length c1,.slice A2 f.devs.length c2,.int .i64 f.step.1,.int .i64 f.step.2,.int .i64 f.method] 27)) (.cells #[.int .i64 mode,.int .i64 method,.int .i64 step.1,.int .i64 step.2] 29) none
 have gw:=Ae g1 g2
 have hFB:=(FlatBox.of (Blk.new w #[.slice A1 f.nodes.length c1,.slice A2 f.devs.length c2,.int .i64 f.step.1,.int .i64 f.step.2,.int .i64 f.method] 27)).more g2
 have hSB:=Blk.new (w.alloc (.cells #[.slice A1 f.nodes.length c1,.slice A2 f.devs.length c2,.int .i64 f.step.1,.int .i64 f.step.2,.int .i64 f.method] 27)) #[.int .i64 mode,.int .i64 method,.int .i64 step.1,.int .i64 step.2] 29
 rw [World.size_alloc] at hSB
 have hCF:=Dm _ f A1 c1 A2 c2 (hf.more gw) (hG.more gw)
 rw [h0] at hCF
 have HCF:=Ac hCF
 have HF:=Ac (hf.more gw)
 have HG:=Ac (hG.more gw)
 have HFB:=Ac hFB
 have HSB:=Ac hSB
 have HS:=Ac hs
 have H0:=Ac h0
 obtain ⟨p0,p1,p2,p3,p4⟩:=hFB
 obtain ⟨r0,r1,r2,r3,_⟩:=hSB.four
 clear hCF hf hG h0 g1 g2 hs hSB
 go_enter Tryz.func94,Tryz.ntmps94
 go_wp2_with fail
 generalize (w.alloc (.cells #[.slice A1 f.nodes.length c1,.slice A2 f.devs.length c2,.int .i64 f.step.1,.int .i64 f.step.2,.int .i64 f.method] 27)).alloc (.cells #[.int .i64 mode,.int .i64 method,.int .i64 step.1,.int .i64 step.2] 29)=wa at *
 generalize w.heap.size=s at *
 refine HCF.out.mono ?_
 rintro e w1 ⟨rfl,hg1⟩
 clear p0 p1 p2 p3 p4 r0 r1 r2 r3
 obtain ⟨p0,p1,p2,p3,p4⟩:=HFB.out.more hg1
 obtain ⟨r0,r1,r2,r3,_⟩:=(HSB.out.more hg1).four
 have hCS:=G7 w1 mode method step i1 i2
 rw [HS.out,if_pos rfl] at hCS
 have HCS:=Ac hCS
 clear hCS
 go_wp2_with fail
 refine HCS.out.mono ?_
 rintro e w2 ⟨rfl,hg2⟩
 clear p0 p1 p2 p3 p4 r0 r1 r2 r3
 have g12:=Ae hg1 hg2
 obtain ⟨p0,p1,p2,p3,p4⟩:=HFB.out.more g12
 obtain ⟨b,o,An,cn,Av,cv,As,cs,Ag,cg,Am,cm,rfl,hat,hc⟩:=(HF.out.more g12).devs.at2 hk
 have e1:(k:Int)<(f.devs.length:Int):=by omega
 have e0:¬ (k:Int)<0:=by omega
 have e2:¬ (f.devs.length:Int)≤(k:Int):=by omega
 have e3:(0:Int)≤(k:Int):=by omega
 have HAT:=Ac hat
 have HDO:=Ac (No H0.out hk)
 generalize hdd:f.devs.getD k dev0=d at *
 have HDD:=Ac hdd
 clear hdd
 obtain ⟨q0,q1,q2,q3,q4,q5,q6,q7,q8,q9,q10,q11,q12⟩:=hc
 have ga:=Af w2 (.cells #[.int .u8 d.kind,.string d.name,.slice An d.nodes.length cn,.int .i64 d.ref,.int .i64 d.val.1,.int .i64 d.val.2,.int .i64 d.wkind,.slice Av d.wvals.length cv,.slice As d.wsteps.length cs,.string d.mname,.int .u8 d.mkind,.slice Ag d.mg.length cg,.slice Am d.mv.length cm] 89) none
 have hDB:=DevBox.of (Blk.new w2 #[.int .u8 d.kind,.string d.name,.slice An d.nodes.length cn,.int .i64 d.ref,.int .i64 d.val.1,.int .i64 d.val.2,.int .i64 d.wkind,.slice Av d.wvals.length cv,.slice As d.wsteps.length cs,.string d.mname,.int .u8 d.mkind,.slice Ag d.mg.length cg,.slice Am d.mv.length cm] 89)
 have HDB:=Ac hDB
 obtain ⟨m0,m1,m2,m3,m4,m5,m6,m7,m8,m9,m10,m11,m12⟩:=hDB
 have p0:=Aj ga p0 (by simp)
 have p1:=Aj ga p1 (by simp)
 have p2:=Aj ga p2 (by simp)
 have p3:=Aj ga p3 (by simp)
 have p4:=Aj ga p4 (by simp)
 have HB:=Ac hb
 have HGA:=Ac ga
 have HPP:=Ac (fun w' (h:(w2.alloc (.cells #[.int .u8 d.kind,.string d.name,.slice An d.nodes.length cn,.int .i64 d.ref,.int .i64 d.val.1,.int .i64 d.val.2,.int .i64 d.wkind,.slice Av d.wvals.length cv,.slice As d.wsteps.length cs,.string d.mname,.int .u8 d.mkind,.slice Ag d.mg.length cg,.slice Am d.mv.length cm] 89)).grownBy w' none)=>(⟨Aj h p0 (by simp),Aj h p1 (by simp),Aj h p2 (by simp),Aj h p3 (by simp),Aj h p4 (by simp)⟩:w'.cell? ⟨s,0,none⟩=some (.slice A1 f.nodes.length c1)∧w'.cell? ⟨s,1,none⟩=some (.slice (some ⟨b,o,none⟩) f.devs.length c2)∧w'.cell? ⟨s,2,none⟩=some (.int .i64 f.step.1)∧w'.cell? ⟨s,3,none⟩=some (.int .i64 f.step.2)∧w'.cell? ⟨s,4,none⟩=some (.int .i64 f.method)))
 clear hat hb ga
 go_upto_region 10 with (fail)
 clear p0 p1 p2 p3 p4 q0 q1 q2 q3 q4 q5 q6 q7 q8 q9 q10 q11 q12
 go_cut [57] (fun v wx=>v=.bool false∧(w2.alloc (.cells #[.int .u8 d.kind,.string d.name,.slice An d.nodes.length cn,.int .i64 d.ref,.int .i64 d.val.1,.int .i64 d.val.2,.int .i64 d.wkind,.slice Av d.wvals.length cv,.slice As d.wsteps.length cs,.string d.mname,.int .u8 d.mkind,.slice Ag d.mg.length cg,.slice Am d.mv.length cm] 89)).grownBy wx none)
 case first =>
  by_cases hbn:Bp d.kind=true
  ·obtain ⟨s0,s1⟩:=HB.out hbn
   obtain ⟨hmo,hmk⟩:=HDO.out.model hbn
   have hct:=M9 (w2.alloc (.cells #[.int .u8 d.kind,.string d.name,.slice An d.nodes.length cn,.int .i64 d.ref,.int .i64 d.val.1,.int .i64 d.val.2,.int .i64 d.wkind,.slice Av d.wvals.length cv,.slice As d.wsteps.length cs,.string d.mname,.int .u8 d.mkind,.slice Ag d.mg.length cg,.slice Am d.mv.length cm] 89)) d.mname d.mkind _ _ d.mg d.mv HAT.out.mkind.1 HAT.out.mkind.2 (HAT.out.g.more HGA.out) (HAT.out.v.more HGA.out)
   rw [if_pos hmo] at hct
   have HCT:=Ac hct
   have u0:¬ seg<0:=by omega
   have u1:¬ (d.mg.length:Int)≤seg:=by omega
   clear hct hmo hmk
   rcases Ew.1 hbn with hkd | hkd
   ·have t100:(d.kind==100)=true:=by rw [beq_iff_eq];exact hkd
    clear hkd hbn
    go_wp2_with fail
    refine HCT.out.mono ?_
    rintro e wc ⟨rfl,hgc⟩
    go_wp2_with fail
    go_meet
    exact ⟨by first | rfl | (simp;omega),hgc⟩
   ·have t100:(d.kind==100)=false:=by rw [beq_eq_false_iff_ne];omega
    have t115:(d.kind==115)=true:=by rw [beq_iff_eq];exact hkd
    clear hkd hbn
    go_wp2_with fail
    refine HCT.out.mono ?_
    rintro e wc ⟨rfl,hgc⟩
    go_wp2_with fail
    go_meet
    exact ⟨by first | rfl | (simp;omega),hgc⟩
  ·have t100:(d.kind==100)=false:=by rw [beq_eq_false_iff_ne];intro h;exact hbn (Ew.2 (.inl h))
   have t115:(d.kind==115)=false:=by rw [beq_eq_false_iff_ne];intro h;exact hbn (Ew.2 (.inr h))
   go_wp2_with fail
   go_meet
   exact ⟨rfl,Al _ _⟩
 case rest =>
  obtain ⟨rfl,hgc⟩:=hcut
  have ga:=Ae HGA.out hgc
  have HU:=Ac (Iy wc f A1 c1 (some ⟨b,o,none⟩) c2 ((HF.out.more g12).more ga) ((HG.out.more g12).more ga) H0.out)
  obtain ⟨p0,p1,p2,p3,p4⟩:=HPP.out wc hgc
  have HDB:=Ac (HDB.out.more hgc)
  clear m0 m1 m2 m3 m4 m5 m6 m7 m8 m9 m10 m11 m12
  go_wp2_with fail
  refine HU.out.mono ?_
  rintro e w3 ⟨v,rfl,hbr,hg3⟩
  clear p0 p1 p2 p3 p4
  obtain ⟨m0,m1,m2,m3,m4,m5,m6,m7,m8,m9,m10,m11,m12⟩:=HDB.out.more hg3
  have hfr:∃ Ab nb cb,v=.slice Ab nb cb:=by obtain ⟨A,c,rfl,_⟩:=hbr;exact ⟨_,_,_,rfl⟩
  obtain ⟨Ab,nb,cb,rfl⟩:=hfr
  have HBR:=Ac hbr
  have gW:=Ae gw (Ae g12 (Ae ga hg3))
  have HPEN:=Ac (PenS.mk (W0:=w3) (w:=w3.alloc (.cells #[.int .u8 d.kind,.string d.name,.slice An d.nodes.length cn,.int .i64 d.ref,.int .i64 d.val.1,.int .i64 d.val.2,.int .i64 d.wkind,.slice Av d.wvals.length cv,.slice As d.wsteps.length cs,.string d.mname,.int .u8 d.mkind,.slice Ag d.mg.length cg,.slice Am d.mv.length cm,.slice Ab nb cb,.int .i64 (k:Int),.slice none 0 0] 173)) (pb:=w3.heap.size) (L:=[]) (Nat.le_refl _) (Af _ _ _) (HAT.out.more (Ae ga hg3)) ⟨Ab,nb,cb,.slice none 0 0,[],HBR.out,Blk.new _ _ _,OwnQ.nil _ _ _ _,rfl,by simp [Value.ownBlock]⟩)
  have HGW:=Ac gW
  clear hbr gW ga hg3 g12 gw hg1 hg2
  go_wp2_with fail
  go_ret2
  exact ⟨w3,w3.heap.size,An,cn,Av,cv,As,cs,Ag,cg,Am,cm,rfl,by rw [HDD.out];exact HPEN.out,Ae HGW.out (Af _ _ _),HGW.out⟩
theorem Qj {f:Bf}:(brs f.devs ((f.nodes.length:Int)-1) f.devs.length).length=f.devs.length:=Ub _ _ _
theorem Y8 {f:Bf} (h0:Cq f=0) {k:Nat} (hk:k<f.devs.length):I64 ((brs f.devs ((f.nodes.length:Int)-1) f.devs.length).getD k 0):=by
 obtain ⟨f1,f2,f3,f4,f5⟩:=Fb h0
 have hnb:=Up f.devs k
 rw [Rx hk];unfold brAt;split<;>exact ⟨by omega,by omega⟩
theorem Ur (k:Int):Cl k=0∨Cl k=2∨Cl k=4:=by
 unfold Cl
 repeat' split
 all_goals omega
theorem Qt {k:Int} (h:Cl k≠0):k=99∨k=100∨k=101∨k=102∨k=103∨k=104∨k=105∨k=108∨k=114∨k=115∨k=116∨k=118:=by
 refine Decidable.byContradiction fun hn=>h ?_
 simp only [not_or] at hn
 obtain ⟨a99,a100,a101,a102,a103,a104,a105,a108,a114,a115,a116,a118⟩:=hn
 unfold Cl
 rw [if_neg a99,if_neg a100,if_neg a101,if_neg a102,if_neg a103,if_neg a104,if_neg a105,if_neg a108,if_neg a114,if_neg a115,if_neg a116,if_neg a118]
theorem Xw {f:Bf} {k:Nat} {mode method:Int} {step:Int × Int} {seg:Int} (h0:Cq f=0) (hk:k<f.devs.length) (hs:setB mode method step=true) (hsg:Bp (f.devs.getD k dev0).kind=true→0≤seg∧seg<((f.devs.getD k dev0).mg.length:Int))
  {W0 w:World} {pb:Nat} {An:Option Addr} {cn:Nat} {Av:Option Addr} {cv:Nat} {As:Option Addr} {cs:Nat} {Ag:Option Addr} {cg:Nat} {Am:Option Addr} {cm:Nat} (h:PenS W0 w pb (f.devs.getD k dev0) An cn Av cv As cs Ag cg Am cm (brs f.devs ((f.nodes.length:Int)-1) f.devs.length) k []) (A1:Option Addr) (n1 c1:Nat) (A2:Option Addr) (n2 c2:Nat) (s1 s2 me:Int) :
  Calls Tryz.prog 95 #[.pointer (some ⟨pb,0,none⟩),.agg #[.slice A1 n1 c1,.slice A2 n2 c2,.int .i64 s1,.int .i64 s2,.int .i64 me],.agg #[.int .i64 mode,.int .i64 method,.int .i64 step.1,.int .i64 step.2],.int .i64 seg] w fun e w'=>e=.returned (.tuple #[])∧Hid (PenS W0 w' pb (f.devs.getD k dev0) An cn Av cv As cs Ag cg Am cm (brs f.devs ((f.nodes.length:Int)-1) f.devs.length) k (Cb (f.devs.getD k dev0) (brs f.devs ((f.nodes.length:Int)-1) f.devs.length) k mode method step seg.toNat)∧Keeps w w'):=by
 obtain ⟨f1,f2,f3,f4,f5⟩:=Fb h0
 have hd:=No h0 hk
 have hJ:=Y8 h0 hk
 have hbl:k<(brs f.devs ((f.nodes.length:Int)-1) f.devs.length).length:=by rw [Qj];exact hk
 have hbn:(brs f.devs ((f.nodes.length:Int)-1) f.devs.length).length≤1000:=by rw [Qj];omega
 have hkt:I64 (k:Int):=⟨by omega,by omega⟩
 have hrf:(f.devs.getD k dev0).kind=102∨(f.devs.getD k dev0).kind=104→∃ j:Nat,(f.devs.getD k dev0).ref=(j:Int)∧j<(brs f.devs ((f.nodes.length:Int)-1) f.devs.length).length∧I64 ((brs f.devs ((f.nodes.length:Int)-1) f.devs.length).getD j 0):=fun e=>by
  obtain ⟨r1,r2,r3⟩:=hd.ref e
  exact ⟨(f.devs.getD k dev0).ref.toNat,by omega,by rw [Qj];exact r2,Y8 h0 r2⟩
 have hst:=fun hm=>Pp hs hm
 have hpl:=Sr hd (seg:=seg.toNat) (fun hb=>by have:=hsg hb;omega)
 generalize brs f.devs ((f.nodes.length:Int)-1) f.devs.length=BR at *
 generalize f.devs.getD k dev0=d at *
 have hj':I64 (BR.getD (k:Int).toNat 0):=by rw [Int.toNat_natCast];exact hJ
 have hbl':(k:Int).toNat<BR.length:=by rw [Int.toNat_natCast];exact hbl
 have hN:d.nodes.length=2∨d.nodes.length=4:=by
  have e1:=hd.num
  have e2:=hd.kind
  have e3:=Ur d.kind
  omega
 have hN4:d.kind=101∨d.kind=103∨d.kind=116→4≤d.nodes.length:=by
  have e1:=hd.num
  rintro (e | e | e)
  ·rw [e,show Cl 101=4 from rfl] at e1;omega
  ·rw [e,show Cl 103=4 from rfl] at e1;omega
  ·rw [e,show Cl 116=4 from rfl] at e1;omega
 have h2n:2≤d.nodes.length:=by omega
 have key:∀ (M:List StampP),Cb d BR k mode method step seg.toNat=M→Calls Tryz.prog 95 #[.pointer (some ⟨pb,0,none⟩),.agg #[.slice A1 n1 c1,.slice A2 n2 c2,.int .i64 s1,.int .i64 s2,.int .i64 me],.agg #[.int .i64 mode,.int .i64 method,.int .i64 step.1,.int .i64 step.2],.int .i64 seg] w (fun e w'=>e=.returned (.tuple #[])∧Hid (PenS W0 w' pb d An cn Av cv As cs Ag cg Am cm BR k ([]++M)∧Keeps w w'))→Calls Tryz.prog 95 #[.pointer (some ⟨pb,0,none⟩),.agg #[.slice A1 n1 c1,.slice A2 n2 c2,.int .i64 s1,.int .i64 s2,.int .i64 me],.agg #[.int .i64 mode,.int .i64 method,.int .i64 step.1,.int .i64 step.2],.int .i64 seg] w (fun e w'=>e=.returned (.tuple #[])∧Hid (PenS W0 w' pb d An cn Av cv As cs Ag cg Am cm BR k (Cb d BR k mode method step seg.toNat)∧Keeps w w')):=fun M hM hC=>by
  rw [hM];exact hC
 by_cases k1:d.kind=114
 ·exact key _ (by unfold Cb;simp only [];rw [if_pos k1]) (A1e W0 w pb d An cn Av cv As cs Ag cg Am cm BR k [] h hd.nodes h2n k1 hd.val (hd.val0 (.inl k1)) (by simp) A1 n1 c1 A2 n2 c2 s1 s2 me mode method step.1 step.2 seg)
 by_cases k2:d.kind=103
 ·exact key _ (by unfold Cb;simp only [];rw [if_neg k1,if_pos k2]) (A1b W0 w pb d An cn Av cv As cs Ag cg Am cm BR k [] h hd.nodes (hN4 (.inr (.inl k2))) k2 hd.val (by simp) A1 n1 c1 A2 n2 c2 s1 s2 me mode method step.1 step.2 seg)
 by_cases k3:d.kind=118
 ·exact key _ (by unfold Cb;simp only [];rw [if_neg k1,if_neg k2,if_pos k3]) (A1h W0 w pb d An cn Av cv As cs Ag cg Am cm BR k [] h hd.nodes h2n k3 hd.val (by simp) (by omega) hbl' hj' hkt A1 n1 c1 A2 n2 c2 s1 s2 me mode method step.1 step.2 seg)
 by_cases k4:d.kind=105
 ·exact key _ (by unfold Cb;simp only [];rw [if_neg k1,if_neg k2,if_neg k3,if_pos k4]) (A1d W0 w pb d An cn Av cv As cs Ag cg Am cm BR k [] h hd.nodes h2n k4 hd.val (by simp) hkt A1 n1 c1 A2 n2 c2 s1 s2 me mode method step.1 step.2 seg)
 by_cases k5:d.kind=101
 ·exact key _ (by unfold Cb;simp only [];rw [if_neg k1,if_neg k2,if_neg k3,if_neg k4,if_pos k5]) (A19 W0 w pb d An cn Av cv As cs Ag cg Am cm BR k [] h hd.nodes (hN4 (.inl k5)) k5 hd.val (by simp) (by omega) hbl' hj' A1 n1 c1 A2 n2 c2 s1 s2 me mode method step.1 step.2 seg)
 by_cases k6:d.kind=102
 ·obtain ⟨j,j1,j2,j3⟩:=hrf (.inl k6)
  exact key _ (by unfold Cb;simp only [];rw [if_neg k1,if_neg k2,if_neg k3,if_neg k4,if_neg k5,if_pos k6,j1];simp only [Int.toNat_natCast]) (A1a W0 w pb d An cn Av cv As cs Ag cg Am cm BR k [] h hd.nodes h2n k6 hd.val (by simp) j j1 j2 hbn j3 A1 n1 c1 A2 n2 c2 s1 s2 me mode method step.1 step.2 seg)
 by_cases k7:d.kind=104
 ·obtain ⟨j,j1,j2,j3⟩:=hrf (.inr k7)
  exact key _ (by unfold Cb;simp only [];rw [if_neg k1,if_neg k2,if_neg k3,if_neg k4,if_neg k5,if_neg k6,if_pos k7,j1];simp only [Int.toNat_natCast]) (A1c W0 w pb d An cn Av cv As cs Ag cg Am cm BR k [] h hd.nodes h2n k7 hd.val (by simp) (by omega) hbl' hj' j j1 j2 hbn j3 A1 n1 c1 A2 n2 c2 s1 s2 me mode method step.1 step.2 seg)
 by_cases k8:d.kind=116
 ·exact key _ (by unfold Cb;simp only [];rw [if_neg k1,if_neg k2,if_neg k3,if_neg k4,if_neg k5,if_neg k6,if_neg k7,if_pos k8]) (A1g W0 w pb d An cn Av cv As cs Ag cg Am cm BR k [] h hd.nodes (hN4 (.inr (.inr k8))) k8 hd.val (by simp) (by omega) hbl' hj' A1 n1 c1 A2 n2 c2 s1 s2 me mode method step.1 step.2 seg)
 by_cases k9:d.kind=99∨d.kind=108
 ·refine key (D8 (decide (d.kind=99)) (d.at 0) (d.at 1) (BR.getD (k:Int).toNat 0) mode method (Uy (numQ d.val.1 d.val.2/numQ step.1 step.2) method)) (by unfold Cb;simp only [];rw [if_neg k1,if_neg k2,if_neg k3,if_neg k4,if_neg k5,if_neg k6,if_neg k7,if_neg k8,if_pos k9]) ?_
  refine A1i W0 w pb d An cn Av cv As cs Ag cg Am cm BR k [] h k9 hd.val A1 n1 c1 A2 n2 c2 s1 s2 me mode method step.1 step.2 seg _ fun w2 hp=>?_
  by_cases hm:mode=1
  ·rw [hm];exact Zt W0 w2 pb d An cn Av cv As cs Ag cg Am cm BR k [] hp hd.nodes h2n k9 (by simp) (by omega) hbl' hj' method step.1 step.2 _
  ·obtain ⟨t1,t2,rfl,rfl | rfl⟩:=hst hm
   ·rcases k9 with k9 | k9
    ·rw [decide_eq_true k9];exact Zp W0 w2 pb d An cn Av cv As cs Ag cg Am cm BR k [] hp hd.nodes h2n k9 hd.val (by simp) (by omega) hbl' hj' step.1 step.2 t1 t2 ((LimQ.quo (Ba hd.val) (Ba t1) (Er t1 t2)).mono (by omega))
    ·rw [decide_eq_false (by omega)];exact Zr W0 w2 pb d An cn Av cv As cs Ag cg Am cm BR k [] hp hd.nodes h2n k9 hd.val (by simp) (by omega) hbl' hj' step.1 step.2 t1 t2 ((LimQ.quo (Ba hd.val) (Ba t1) (Er t1 t2)).mono (by omega))
   ·rcases k9 with k9 | k9
    ·rw [decide_eq_true k9];exact Zq W0 w2 pb d An cn Av cv As cs Ag cg Am cm BR k [] hp hd.nodes h2n k9 hd.val (by simp) (by omega) hbl' hj' step.1 step.2 t1 t2 ((LimQ.mul (LimQ.quo (Ba hd.val) (Ba t1) (Er t1 t2)) (Lh (by omega))).mono (by omega))
    ·rw [decide_eq_false (by omega)];exact Zs W0 w2 pb d An cn Av cv As cs Ag cg Am cm BR k [] hp hd.nodes h2n k9 hd.val (by simp) (by omega) hbl' hj' step.1 step.2 t1 t2 ((LimQ.mul (LimQ.quo (Ba hd.val) (Ba t1) (Er t1 t2)) (Lh (by omega))).mono (by omega))
 have hbt:Bp d.kind=true:=by
  have e2:=Qt hd.kind
  rw [Ew]
  omega
 obtain ⟨g1,g2⟩:=hsg hbt
 obtain ⟨m1,m2⟩:=hd.model hbt
 obtain ⟨p1,p2⟩:=hpl (fun e=>by rw [hbt] at e;cases e)
 obtain ⟨sg,rfl⟩:∃ sg:Nat,seg=(sg:Int):=⟨seg.toNat,by omega⟩
 rw [Int.toNat_natCast] at *
 by_cases k10:d.kind=100
 ·exact key _ (by unfold Cb;simp only [];rw [if_neg k1,if_neg k2,if_neg k3,if_neg k4,if_neg k5,if_neg k6,if_neg k7,if_neg k8,if_neg k9,if_pos k10]) (A18 W0 w pb d An cn Av cv As cs Ag cg Am cm BR k [] h hd.nodes h2n k10 hd.val (by simp) m1 sg (by omega) p1 p2 A1 n1 c1 A2 n2 c2 s1 s2 me mode method step.1 step.2)
 ·exact key _ (by unfold Cb;simp only [];rw [if_neg k1,if_neg k2,if_neg k3,if_neg k4,if_neg k5,if_neg k6,if_neg k7,if_neg k8,if_neg k9,if_neg k10,List.append_nil]) (A1f W0 w pb d An cn Av cv As cs Ag cg Am cm BR k [] h hd.nodes h2n (by rcases Ew.1 hbt with e | e;exact absurd e k10;exact e) hd.val (by simp) m1 sg (by omega) p1 A1 n1 c1 A2 n2 c2 s1 s2 me mode method step.1 step.2)
set_option maxRecDepth 100000 in
theorem U7 (w:World) (f:Bf) (A1:Option Addr) (c1:Nat) (A2:Option Addr) (c2:Nat) (hf:FlatAt w f A1 c1 A2 c2) (hG:GlobOK w) (h0:Cq f=0)
  (mode method:Int) (step:Int × Int) (i1:I64 step.1) (i2:I64 step.2) (hs:setB mode method step=true) (k:Nat) (hk:k<f.devs.length) (seg:Int) (hsg:Bp (f.devs.getD k dev0).kind=true→0≤seg∧seg<((f.devs.getD k dev0).mg.length:Int)) (SL:List StampP) (hSL:SL=Cb (f.devs.getD k dev0) (brs f.devs ((f.nodes.length:Int)-1) f.devs.length) k mode method step seg.toNat) :
  Calls Tryz.prog 44 #[.agg #[.slice A1 f.nodes.length c1,.slice A2 f.devs.length c2,.int .i64 f.step.1,.int .i64 f.step.2,.int .i64 f.method],.int .i64 (k:Int),.agg #[.int .i64 mode,.int .i64 method,.int .i64 step.1,.int .i64 step.2],.int .i64 seg] w fun e w'=>∃ A c,e=.returned (.tuple #[.slice A SL.length c,.int .i64 0])∧StampRow w' (.slice A SL.length c) SL∧w.grownBy w' none:=by
 have g1:=Af w (.cells #[.slice A1 f.nodes.length c1,.slice A2 f.devs.length c2,.int .i64 f.step.1,.int .i64 f.step.2,.int .i64 f.method] 27) none
 have g2:=Af (w.alloc (.cells #[.slice A1 f.nodes.length c1,.slice A2 f.devs.length c2,.int .i64 f.step.1,.int .i64 f.step.2,.int .i64 f.method] 27)) (.cells #[.int .i64 mode,.int .i64 method,.int .i64 step.1,.int .i64 step.2] 29) none
 have gw:=Ae g1 g2
 have hFB:=(FlatBox.of (Blk.new w #[.slice A1 f.nodes.length c1,.slice A2 f.devs.length c2,.int .i64 f.step.1,.int .i64 f.step.2,.int .i64 f.method] 27)).more g2
 have hSB:=Blk.new (w.alloc (.cells #[.slice A1 f.nodes.length c1,.slice A2 f.devs.length c2,.int .i64 f.step.1,.int .i64 f.step.2,.int .i64 f.method] 27)) #[.int .i64 mode,.int .i64 method,.int .i64 step.1,.int .i64 step.2] 29
 rw [World.size_alloc] at hSB
 have HBG:=Ac (Qi _ f A1 c1 A2 c2 (hf.more gw) (hG.more gw) h0 mode method step i1 i2 hs k hk seg hsg)
 have HFB:=Ac hFB
 have HSB:=Ac hSB
 have HGW:=Ac gw
 obtain ⟨p0,p1,p2,p3,p4⟩:=hFB
 obtain ⟨r0,r1,r2,r3,_⟩:=hSB.four
 have HWA:=Ac (fun w1 W0 pb An cn Av cv As cs Ag cg Am cm h=>Xw h0 hk hs hsg (w:=w1) (W0:=W0) (pb:=pb) (An:=An) (cn:=cn) (Av:=Av) (cv:=cv) (As:=As) (cs:=cs) (Ag:=Ag) (cg:=cg) (Am:=Am) (cm:=cm) h A1 f.nodes.length c1 A2 f.devs.length c2 f.step.1 f.step.2 f.method)
 rw [←hSL] at HWA
 generalize brs f.devs ((f.nodes.length:Int)-1) f.devs.length=BR at *
 generalize f.devs.getD k dev0=d at *
 clear hf hG h0 hs g1 g2 gw hSB hSL hsg
 go_enter Tryz.func44,Tryz.ntmps44
 go_wp2_with fail
 generalize (w.alloc (.cells #[.slice A1 f.nodes.length c1,.slice A2 f.devs.length c2,.int .i64 f.step.1,.int .i64 f.step.2,.int .i64 f.method] 27)).alloc (.cells #[.int .i64 mode,.int .i64 method,.int .i64 step.1,.int .i64 step.2] 29)=wa at *
 generalize w.heap.size=s at *
 refine HBG.out.mono ?_
 rintro e w1 ⟨W0,pb,An,cn,Av,cv,As,cs,Ag,cg,Am,cm,rfl,hpen,hg1,hgW⟩
 clear p0 p1 p2 p3 p4 r0 r1 r2 r3
 obtain ⟨p0,p1,p2,p3,p4⟩:=HFB.out.more hg1
 obtain ⟨r0,r1,r2,r3,_⟩:=(HSB.out.more hg1).four
 have HGA:=Ac (Ae HGW.out hgW)
 have HPEN:=Ac hpen
 clear hpen hg1 hgW
 have HW:=Ac (HWA.out w1 W0 pb An cn Av cv As cs Ag cg Am cm HPEN.out)
 go_wp2_with fail
 refine HW.out.mono ?_
 rintro e w2 ⟨rfl,h1⟩
 have hP:=h1.out.1
 obtain ⟨A,c,hc,hrow⟩:=hP.out
 have HROW:=Ac hrow
 have HGR:=Ac hP.grown
 clear hrow hP h1 p0 p1 p2 p3 p4 r0 r1 r2 r3
 go_wp2_with fail
 go_ret2
 exact ⟨A,c,rfl,HROW.out,Ae HGA.out HGR.out⟩
end
section
open Go.RowKit Go.Maps
open Rat
def Dl (f:Bf) (mode method:Int) (step:Int × Int) (segs:List Int):List StampP:=C6 (Es f mode method step segs) f.devs.length
def Cz (f:Bf) (mode method:Int) (step:Int × Int) (segs:List Int):Int:=if Cq f≠0 then Cq f else if setB mode method step=false then 110 else if Fg f segs=false then 111 else 0
def bldE (f:Bf) (mode method:Int) (step:Int × Int) (segs:List Int):Int:=if Cz f mode method step segs≠0 then Cz f mode method step segs else Fm (Dl f mode method step segs) (unk f).toNat
def bldV (f:Bf) (mode method:Int) (step:Int × Int) (segs:List Int):List RowP:=if Cz f mode method step segs≠0 then [] else G1 (Dl f mode method step segs) (unk f).toNat
theorem L5 {f:Bf} {mode method:Int} {step:Int × Int} {segs:List Int} (h:Cz f mode method step segs=0):Cq f=0∧setB mode method step=true∧Fg f segs=true:=by
 unfold Cz at h
 split at h
 ·omega
 ·split at h
  ·omega
  ·split at h
   ·omega
   ·rename_i h1 h2 h3
    exact ⟨by omega,by simpa using h2,by simpa using h3⟩
theorem A14 {f:Bf} (h:Cq f=0):unk f=((unk f).toNat:Int)∧(unk f).toNat≤48:=by
 obtain ⟨_,_,h3,h4,_⟩:=Fb h
 have:0≤unk f:=by unfold unk;omega
 omega
theorem R9 {f:Bf} {mode method:Int} {step:Int × Int} {segs:List Int} (h:Cz f mode method step segs=0):StG (unk f) 128 (Dl f mode method step segs)∧(Dl f mode method step segs).length≤1024:=by
 obtain ⟨h1,h2,h3⟩:=L5 h
 have hd:=(Fb h1).2.1
 constructor
 ·intro x hx
  obtain ⟨j,hj,hx⟩:=Jn hx
  exact Kk h1 hj h2 h3 x hx
 ·have:∀ k,(C6 (Es f mode method step segs) k).length≤k*16:=by
   intro k
   induction k with
   | zero=>simp [C6]
   | succ k ih=>rw [C6,List.length_append];have:=Ti (f.devs.getD k dev0) (brs f.devs ((f.nodes.length:Int)-1) f.devs.length) k mode method step (segI f segs k).toNat;unfold Es at ih ⊢;omega
  have:=this f.devs.length
  unfold Dl
  omega
set_option maxRecDepth 100000 in
theorem Iu (w:World) (f:Bf) (A1:Option Addr) (c1:Nat) (A2:Option Addr) (c2:Nat) (hf:FlatAt w f A1 c1 A2 c2) (hG:GlobOK w)
    (mode method:Int) (step:Int × Int) (i1:I64 step.1) (i2:I64 step.2) (Aq:Option Addr) (cq:Nat) (segs:List Int) (hsr:IntRow w (.slice Aq segs.length cq) segs) :
    Calls Tryz.prog 13 #[.agg #[.slice A1 f.nodes.length c1,.slice A2 f.devs.length c2,.int .i64 f.step.1,.int .i64 f.step.2,.int .i64 f.method],.agg #[.int .i64 mode,.int .i64 method,.int .i64 step.1,.int .i64 step.2],.slice Aq segs.length cq] w fun e w'=>∃ A c,e=.returned (.tuple #[.agg #[.slice A (bldV f mode method step segs).length c],.int .i64 (bldE f mode method step segs)])∧SysRowW w' w.heap.size (.slice A (bldV f mode method step segs).length c) (bldV f mode method step segs)∧w.grownBy w' none:=by
  by_cases hft:Cz f mode method step segs=0
  · obtain ⟨h0,hs,hsb⟩:=L5 hft
    obtain ⟨u1,u2⟩:=A14 h0
    obtain ⟨k1,k2⟩:=R9 hft
    have hE:bldE f mode method step segs=Fm (Dl f mode method step segs) (unk f).toNat:=by unfold bldE;rw [if_neg (by omega)]
    have hV:bldV f mode method step segs=G1 (Dl f mode method step segs) (unk f).toNat:=by unfold bldV;rw [if_neg (by omega)]
    rw [hE,hV]
    refine Px w f A1 c1 A2 c2 hf hG h0 mode method step i1 i2 hs Aq cq segs hsr hsb (unk f).toNat u1 (Es f mode method step segs) 128 1024 (fun k hk W hW=>U7 W f A1 c1 A2 c2 (hf.more hW) (hG.more hW) h0 mode method step i1 i2 hs k hk (segI f segs k) (fun hb=>(R5 hsb hk hb).2) _ rfl) (fun k x hk hx=>?_) k2 (by omega) (by omega)
    obtain ⟨⟨a1,a2,a3,a4⟩,a5⟩:=Kk h0 hk hs hsb x hx
    exact ⟨⟨x.row.toNat,by omega,by omega⟩,⟨x.kind.toNat,by omega,by omega⟩,a4⟩
  · have hE:bldE f mode method step segs=Cz f mode method step segs:=by unfold bldE;rw [if_pos hft]
    have hV:bldV f mode method step segs=[]:=by unfold bldV;rw [if_pos hft]
    rw [hE,hV]
    by_cases h0:Cq f=0
    · by_cases hs:setB mode method step=true
      · have hsb:Fg f segs=false:=by
          cases h:Fg f segs with
          | false=>rfl
          | true=>exact absurd (by unfold Cz;rw [if_neg (by omega),if_neg (by rw [hs];simp),if_neg (by rw [h];simp)]) hft
        have hF:Cz f mode method step segs=111:=by unfold Cz;rw [if_neg (by omega),if_neg (by rw [hs];simp),if_pos hsb]
        rw [hF]
        have g1:=Af w (.cells #[.slice A1 f.nodes.length c1,.slice A2 f.devs.length c2,.int .i64 f.step.1,.int .i64 f.step.2,.int .i64 f.method] 27) none
        have g2:=Af (w.alloc (.cells #[.slice A1 f.nodes.length c1,.slice A2 f.devs.length c2,.int .i64 f.step.1,.int .i64 f.step.2,.int .i64 f.method] 27)) (.cells #[.int .i64 mode,.int .i64 method,.int .i64 step.1,.int .i64 step.2] 29) none
        have g3:=Af ((w.alloc (.cells #[.slice A1 f.nodes.length c1,.slice A2 f.devs.length c2,.int .i64 f.step.1,.int .i64 f.step.2,.int .i64 f.method] 27)).alloc (.cells #[.int .i64 mode,.int .i64 method,.int .i64 step.1,.int .i64 step.2] 29)) (.cells #[.slice none 0 0] 38) none
        have gw:=Ae g1 (Ae g2 g3)
        have hFB:=(FlatBox.of (Blk.new w #[.slice A1 f.nodes.length c1,.slice A2 f.devs.length c2,.int .i64 f.step.1,.int .i64 f.step.2,.int .i64 f.method] 27)).more (Ae g2 g3)
        have hSB:=(Blk.new (w.alloc (.cells #[.slice A1 f.nodes.length c1,.slice A2 f.devs.length c2,.int .i64 f.step.1,.int .i64 f.step.2,.int .i64 f.method] 27)) #[.int .i64 mode,.int .i64 method,.int .i64 step.1,.int .i64 step.2] 29).more g3
        have hZB:=Blk.new ((w.alloc (.cells #[.slice A1 f.nodes.length c1,.slice A2 f.devs.length c2,.int .i64 f.step.1,.int .i64 f.step.2,.int .i64 f.method] 27)).alloc (.cells #[.int .i64 mode,.int .i64 method,.int .i64 step.1,.int .i64 step.2] 29)) #[.slice none 0 0] 38
        rw [World.size_alloc] at hSB hZB
        rw [World.size_alloc] at hZB
        have hCF:=Dm _ f A1 c1 A2 c2 (hf.more gw) (hG.more gw)
        have HCF:=Ac hCF
        have HF:=Ac (hf.more gw)
        have HSR:=Ac (hsr.more gw)
        have HFB:=Ac hFB
        have HSB:=Ac hSB
        have HZB:=Ac hZB
        have HGW:=Ac gw
        obtain ⟨p0,p1,p2,p3,p4⟩:=hFB
        obtain ⟨r0,r1,r2,r3,_⟩:=hSB.four
        clear hCF hf hG hsr g1 g2 g3 hSB hZB gw
        rw [h0] at HCF
        have HS:Hid ((if setB mode method step then (0:Int) else 110)=0):=Ac (if_pos hs)
        have H0:=Ac h0
        have HSEG:=Ac hsb
        clear hE hV hF hft h0 hs hsb
        go_enter Tryz.func13,Tryz.ntmps13
        go_wp2_with fail
        generalize ((w.alloc (.cells #[.slice A1 f.nodes.length c1,.slice A2 f.devs.length c2,.int .i64 f.step.1,.int .i64 f.step.2,.int .i64 f.method] 27)).alloc (.cells #[.int .i64 mode,.int .i64 method,.int .i64 step.1,.int .i64 step.2] 29)).alloc (.cells #[.slice none 0 0] 38)=wa at *
        generalize hsw:w.heap.size=s at *
        have HSW:=Ac hsw
        clear hsw
        refine HCF.out.mono ?_
        rintro e w1 ⟨rfl,hg1⟩
        clear p0 p1 p2 p3 p4 r0 r1 r2 r3
        obtain ⟨p0,p1,p2,p3,p4⟩:=HFB.out.more hg1
        obtain ⟨r0,r1,r2,r3,_⟩:=(HSB.out.more hg1).four
        go_wp2_with fail
        refine (G7 w1 mode method step i1 i2).mono ?_
        rintro e w2 ⟨he2,hg2⟩
        rw [HS.out] at he2
        subst he2
        clear p0 p1 p2 p3 p4 r0 r1 r2 r3
        have g12:=Ae hg1 hg2
        have K1:∀ w',w2.grownBy w' none→w'.cell? ⟨s,0,none⟩=some (.slice A1 f.nodes.length c1)∧w'.cell? ⟨s,1,none⟩=some (.slice A2 f.devs.length c2)∧w'.cell? ⟨s,2,none⟩=some (.int .i64 f.step.1)∧w'.cell? ⟨s,3,none⟩=some (.int .i64 f.step.2)∧w'.cell? ⟨s,4,none⟩=some (.int .i64 f.method):=fun w' h=>by
          obtain ⟨a0,a1,a2,a3,a4⟩:=HFB.out.more (Ae g12 h);exact ⟨a0,a1,a2,a3,a4⟩
        obtain ⟨p0,p1,p2,p3,p4⟩:=K1 _ (Al _ _)
        have HK:=Ac K1
        have HG12:=Ac g12
        clear K1 hg1 hg2 g12
        go_wp2_with fail
        go_region_held3 (fun w'=>w'.cell? ⟨s,0,none⟩=some (.slice A1 f.nodes.length c1)∧w'.cell? ⟨s,1,none⟩=some (.slice A2 f.devs.length c2)∧w'.cell? ⟨s,2,none⟩=some (.int .i64 f.step.1)∧w'.cell? ⟨s,3,none⟩=some (.int .i64 f.step.2)∧w'.cell? ⟨s,4,none⟩=some (.int .i64 f.method)) ((refine HK.out _ ?_;(focus ((repeat (first | assumption | exact Al _ _ | exact Ai _ _ | exact Af _ _ _ | refine Ae ?_ (Af _ _ _) | refine Ae ?_ (Ai _ _) | refine Ae ?_ (by assumption)));done))))
         (first
         | (go_at_call 17;refine (N4 _ f A1 c1 A2 c2 (HF.out.more (Ae HG12.out (by (focus ((repeat (first | assumption | exact Al _ _ | exact Ai _ _ | exact Af _ _ _ | refine Ae ?_ (Af _ _ _) | refine Ae ?_ (Ai _ _) | refine Ae ?_ (by assumption)));done)))))).mono ?_;rintro e w3 ⟨v3,rfl,hr3,hf3,hg3⟩;obtain ⟨A3,c3,rfl,hr3'⟩:=hr3.intsForm)
         | (go_at_call 42;refine (Is _ f A1 c1 A2 c2 (HF.out.more (Ae HG12.out (by (focus ((repeat (first | assumption | exact Al _ _ | exact Ai _ _ | exact Af _ _ _ | refine Ae ?_ (Af _ _ _) | refine Ae ?_ (Ai _ _) | refine Ae ?_ (by assumption)));done))))) H0.out A3 c3 (Row.more hr3' (by (focus ((repeat (first | assumption | exact Al _ _ | exact Ai _ _ | exact Af _ _ _ | refine Ae ?_ (Af _ _ _) | refine Ae ?_ (Ai _ _) | refine Ae ?_ (by assumption)));done)))) Aq cq segs (HSR.out.more (Ae HG12.out (by (focus ((repeat (first | assumption | exact Al _ _ | exact Ai _ _ | exact Af _ _ _ | refine Ae ?_ (Af _ _ _) | refine Ae ?_ (Ai _ _) | refine Ae ?_ (by assumption)));done)))))).mono ?_;rintro e w4 ⟨he4,hg4⟩;rw [HSEG.out] at he4;subst he4))
        all_goals
          have hg4':=Ae HG12.out (show w2.grownBy w4 none by (focus ((repeat (first | assumption | exact Al _ _ | exact Ai _ _ | exact Af _ _ _ | refine Ae ?_ (Af _ _ _) | refine Ae ?_ (Ai _ _) | refine Ae ?_ (by assumption)));done)))
          clear p0 p1 p2 p3 p4
          have hzb:=HZB.out.more hg4'
          have z0:=hzb.cell 0
          have y0:=hzb.free 0
          simp only [List.getElem?_toArray,List.getElem?_cons_zero] at z0
          have HGA:=Ac (Ae HGW.out hg4')
          clear hzb
          go_wp2_with fail
          try simp only [Exit.inBlock,Exit.then]
          refine bodyPost_ret (v:=.tuple #[.agg #[.slice none 0 0],.int .i64 111]) (by simp [results,Tryz.results13,go_sem, *]) rfl ⟨none,0,rfl,SysRowW.nil _ _,Aw HGA.out (Au _ _ _ _) (by have:=HSW.out;omega)⟩
      · have hs':setB mode method step=false:=by simpa using hs
        have hF:Cz f mode method step segs=110:=by unfold Cz;rw [if_neg (by omega),if_pos hs']
        rw [hF]
        have g1:=Af w (.cells #[.slice A1 f.nodes.length c1,.slice A2 f.devs.length c2,.int .i64 f.step.1,.int .i64 f.step.2,.int .i64 f.method] 27) none
        have g2:=Af (w.alloc (.cells #[.slice A1 f.nodes.length c1,.slice A2 f.devs.length c2,.int .i64 f.step.1,.int .i64 f.step.2,.int .i64 f.method] 27)) (.cells #[.int .i64 mode,.int .i64 method,.int .i64 step.1,.int .i64 step.2] 29) none
        have g3:=Af ((w.alloc (.cells #[.slice A1 f.nodes.length c1,.slice A2 f.devs.length c2,.int .i64 f.step.1,.int .i64 f.step.2,.int .i64 f.method] 27)).alloc (.cells #[.int .i64 mode,.int .i64 method,.int .i64 step.1,.int .i64 step.2] 29)) (.cells #[.slice none 0 0] 38) none
        have gw:=Ae g1 (Ae g2 g3)
        have hFB:=(FlatBox.of (Blk.new w #[.slice A1 f.nodes.length c1,.slice A2 f.devs.length c2,.int .i64 f.step.1,.int .i64 f.step.2,.int .i64 f.method] 27)).more (Ae g2 g3)
        have hSB:=(Blk.new (w.alloc (.cells #[.slice A1 f.nodes.length c1,.slice A2 f.devs.length c2,.int .i64 f.step.1,.int .i64 f.step.2,.int .i64 f.method] 27)) #[.int .i64 mode,.int .i64 method,.int .i64 step.1,.int .i64 step.2] 29).more g3
        have hZB:=Blk.new ((w.alloc (.cells #[.slice A1 f.nodes.length c1,.slice A2 f.devs.length c2,.int .i64 f.step.1,.int .i64 f.step.2,.int .i64 f.method] 27)).alloc (.cells #[.int .i64 mode,.int .i64 method,.int .i64 step.1,.int .i64 step.2] 29)) #[.slice none 0 0] 38
        rw [World.size_alloc] at hSB hZB
        rw [World.size_alloc] at hZB
        have hCF:=Dm _ f A1 c1 A2 c2 (hf.more gw) (hG.more gw)
        have HCF:=Ac hCF
        have HF:=Ac (hf.more gw)
        have HSR:=Ac (hsr.more gw)
        have HFB:=Ac hFB
        have HSB:=Ac hSB
        have HZB:=Ac hZB
        have HGW:=Ac gw
        obtain ⟨p0,p1,p2,p3,p4⟩:=hFB
        obtain ⟨r0,r1,r2,r3,_⟩:=hSB.four
        clear hCF hf hG hsr g1 g2 g3 hSB hZB gw
        rw [h0] at HCF
        have HS:Hid ((if setB mode method step then (0:Int) else 110)=110):=Ac (if_neg hs)
        clear hE hV hF hft h0 hs hs'
        go_enter Tryz.func13,Tryz.ntmps13
        go_wp2_with fail
        generalize ((w.alloc (.cells #[.slice A1 f.nodes.length c1,.slice A2 f.devs.length c2,.int .i64 f.step.1,.int .i64 f.step.2,.int .i64 f.method] 27)).alloc (.cells #[.int .i64 mode,.int .i64 method,.int .i64 step.1,.int .i64 step.2] 29)).alloc (.cells #[.slice none 0 0] 38)=wa at *
        generalize hsw:w.heap.size=s at *
        have HSW:=Ac hsw
        clear hsw
        refine HCF.out.mono ?_
        rintro e w1 ⟨rfl,hg1⟩
        clear p0 p1 p2 p3 p4 r0 r1 r2 r3
        obtain ⟨p0,p1,p2,p3,p4⟩:=HFB.out.more hg1
        obtain ⟨r0,r1,r2,r3,_⟩:=(HSB.out.more hg1).four
        go_wp2_with fail
        refine (G7 w1 mode method step i1 i2).mono ?_
        rintro e w2 ⟨he2,hg2⟩
        rw [HS.out] at he2
        subst he2
        clear p0 p1 p2 p3 p4 r0 r1 r2 r3
        have g12:=Ae hg1 hg2
        have hzb:=HZB.out.more g12
        have z0:=hzb.cell 0
        have y0:=hzb.free 0
        simp only [List.getElem?_toArray,List.getElem?_cons_zero] at z0
        have HGA:=Ac (Ae HGW.out g12)
        clear hzb
        go_wp2_with fail
        try simp only [Exit.inBlock,Exit.then]
        refine bodyPost_ret (v:=.tuple #[.agg #[.slice none 0 0],.int .i64 110]) (by simp [results,Tryz.results13,go_sem, *]) rfl ⟨none,0,rfl,SysRowW.nil _ _,Aw HGA.out (Au _ _ _ _) (by have:=HSW.out;omega)⟩
    · have hF:Cz f mode method step segs=Cq f:=by unfold Cz;rw [if_pos h0]
      rw [hF]
      clear hE hV hF hft
      have g1:=Af w (.cells #[.slice A1 f.nodes.length c1,.slice A2 f.devs.length c2,.int .i64 f.step.1,.int .i64 f.step.2,.int .i64 f.method] 27) none
      have g2:=Af (w.alloc (.cells #[.slice A1 f.nodes.length c1,.slice A2 f.devs.length c2,.int .i64 f.step.1,.int .i64 f.step.2,.int .i64 f.method] 27)) (.cells #[.int .i64 mode,.int .i64 method,.int .i64 step.1,.int .i64 step.2] 29) none
      have g3:=Af ((w.alloc (.cells #[.slice A1 f.nodes.length c1,.slice A2 f.devs.length c2,.int .i64 f.step.1,.int .i64 f.step.2,.int .i64 f.method] 27)).alloc (.cells #[.int .i64 mode,.int .i64 method,.int .i64 step.1,.int .i64 step.2] 29)) (.cells #[.slice none 0 0] 38) none
      have gw:=Ae g1 (Ae g2 g3)
      have hFB:=(FlatBox.of (Blk.new w #[.slice A1 f.nodes.length c1,.slice A2 f.devs.length c2,.int .i64 f.step.1,.int .i64 f.step.2,.int .i64 f.method] 27)).more (Ae g2 g3)
      have hSB:=(Blk.new (w.alloc (.cells #[.slice A1 f.nodes.length c1,.slice A2 f.devs.length c2,.int .i64 f.step.1,.int .i64 f.step.2,.int .i64 f.method] 27)) #[.int .i64 mode,.int .i64 method,.int .i64 step.1,.int .i64 step.2] 29).more g3
      have hZB:=Blk.new ((w.alloc (.cells #[.slice A1 f.nodes.length c1,.slice A2 f.devs.length c2,.int .i64 f.step.1,.int .i64 f.step.2,.int .i64 f.method] 27)).alloc (.cells #[.int .i64 mode,.int .i64 method,.int .i64 step.1,.int .i64 step.2] 29)) #[.slice none 0 0] 38
      rw [World.size_alloc] at hSB hZB
      rw [World.size_alloc] at hZB
      have hCF:=Dm _ f A1 c1 A2 c2 (hf.more gw) (hG.more gw)
      have HCF:=Ac hCF
      have HF:=Ac (hf.more gw)
      have HSR:=Ac (hsr.more gw)
      have HFB:=Ac hFB
      have HSB:=Ac hSB
      have HZB:=Ac hZB
      have HGW:=Ac gw
      obtain ⟨p0,p1,p2,p3,p4⟩:=hFB
      obtain ⟨r0,r1,r2,r3,_⟩:=hSB.four
      clear hCF hf hG hsr g1 g2 g3 hSB hZB gw
      obtain ⟨E,hEE⟩:∃ E,Cq f=E:=⟨_,rfl⟩
      rw [hEE] at HCF h0 ⊢
      have t0:(E != 0)=true:=by rw [bne_iff_ne];exact h0
      clear hEE h0
      go_enter Tryz.func13,Tryz.ntmps13
      go_wp2_with fail
      generalize ((w.alloc (.cells #[.slice A1 f.nodes.length c1,.slice A2 f.devs.length c2,.int .i64 f.step.1,.int .i64 f.step.2,.int .i64 f.method] 27)).alloc (.cells #[.int .i64 mode,.int .i64 method,.int .i64 step.1,.int .i64 step.2] 29)).alloc (.cells #[.slice none 0 0] 38)=wa at *
      generalize hsw:w.heap.size=s at *
      have HSW:=Ac hsw
      clear hsw
      refine HCF.out.mono ?_
      rintro e w1 ⟨rfl,hg1⟩
      clear p0 p1 p2 p3 p4 r0 r1 r2 r3
      have hzb:=HZB.out.more hg1
      have z0:=hzb.cell 0
      have y0:=hzb.free 0
      simp only [List.getElem?_toArray,List.getElem?_cons_zero] at z0
      have HGA:=Ac (Ae HGW.out hg1)
      clear hzb
      go_wp2_with fail
      try simp only [Exit.inBlock,Exit.then]
      refine bodyPost_ret (v:=.tuple #[.agg #[.slice none 0 0],.int .i64 E]) (by simp [results,Tryz.results13,go_sem, *]) rfl ⟨none,0,rfl,SysRowW.nil _ _,Aw HGA.out (Au _ _ _ _) (by have:=HSW.out;omega)⟩
end
end Go.Proofs.YtmfmfpmkgmkgiaaGreatDoor
