/- StO StP StI. -/
import Derived.Test.YtmfmfpmkgmkgiaaGreatDoorMav
import Derived.Test.YtmfmfpmkgmkgiaaGreatDoorMas
import Derived.Test.YtmfmfpmkgmkgiaaGreatDoorMat
import Derived.Deep.DeepCutAuto
set_option linter.unusedVariables false
set_option linter.unusedSimpArgs false
set_option maxHeartbeats 40000000
namespace Go.Proofs.YtmfmfpmkgmkgiaaGreatDoor
section
open Go.RowKit Go.Maps
open Rat
set_option maxRecDepth 100000 in
theorem A1i (W0 w:World) (pb:Nat) (d:DevP) (An:Option Addr) (cn:Nat) (Av:Option Addr) (cv:Nat) (As:Option Addr) (cs:Nat) (Ag:Option Addr) (cg:Nat) (Am:Option Addr) (cm:Nat) (br:List Int) (k:Int) (L:List StampP) (h:PenS W0 w pb d An cn Av cv As cs Ag cg Am cm br k L) (hkd:d.kind=99∨d.kind=108) (hv:NumOK d.val.1 d.val.2) (A1:Option Addr) (n1 c1:Nat) (A2:Option Addr) (n2 c2:Nat) (s1 s2 me mode method t1 t2 seg:Int) (M:List StampP)
  (hr:∀ w2,PenS W0 w2 pb d An cn Av cv As cs Ag cg Am cm br k L→Calls Tryz.prog 161 #[.pointer (some ⟨pb,0,none⟩),.agg #[.int .i64 mode,.int .i64 method,.int .i64 t1,.int .i64 t2]] w2 fun e w'=>e=.returned (.tuple #[])∧Hid (PenS W0 w' pb d An cn Av cv As cs Ag cg Am cm br k (L++M)∧Keeps w2 w')) :
  Calls Tryz.prog 95 #[.pointer (some ⟨pb,0,none⟩),.agg #[.slice A1 n1 c1,.slice A2 n2 c2,.int .i64 s1,.int .i64 s2,.int .i64 me],.agg #[.int .i64 mode,.int .i64 method,.int .i64 t1,.int .i64 t2],.int .i64 seg] w fun e w'=>e=.returned (.tuple #[])∧Hid (PenS W0 w' pb d An cn Av cv As cs Ag cg Am cm br k (L++M)∧Keeps w w'):=by
 have tk1:=kne (show d.kind≠114 by omega)
 have tk2:=kne (show d.kind≠103 by omega)
 have tk3:=kne (show d.kind≠118 by omega)
 have tk4:=kne (show d.kind≠105 by omega)
 have tk5:=kne (show d.kind≠101 by omega)
 have tk6:=kne (show d.kind≠102 by omega)
 have tk7:=kne (show d.kind≠104 by omega)
 have tk8:=kne (show d.kind≠116 by omega)
 have HR:=Ac hr
 clear hr
 rcases hkd with hkd | hkd
 ·have tk:(d.kind==99)=true:=by rw [beq_iff_eq];exact hkd
  clear hkd
  have gw:=Ae (Ae (Af w (.cells #[.slice A1 n1 c1,.slice A2 n2 c2,.int .i64 s1,.int .i64 s2,.int .i64 me] 27) none) (Af (w.alloc (.cells #[.slice A1 n1 c1,.slice A2 n2 c2,.int .i64 s1,.int .i64 s2,.int .i64 me] 27)) (.cells #[.int .i64 mode,.int .i64 method,.int .i64 t1,.int .i64 t2] 29) none)) (Af ((w.alloc (.cells #[.slice A1 n1 c1,.slice A2 n2 c2,.int .i64 s1,.int .i64 s2,.int .i64 me] 27)).alloc (.cells #[.int .i64 mode,.int .i64 method,.int .i64 t1,.int .i64 t2] 29)) (.cells #[.bool false,.slice none 0 0,.bool false,.slice none 0 0] 178) none)
  have HSB:=(Blk.new (w.alloc (.cells #[.slice A1 n1 c1,.slice A2 n2 c2,.int .i64 s1,.int .i64 s2,.int .i64 me] 27)) #[.int .i64 mode,.int .i64 method,.int .i64 t1,.int .i64 t2] 29).more (Af ((w.alloc (.cells #[.slice A1 n1 c1,.slice A2 n2 c2,.int .i64 s1,.int .i64 s2,.int .i64 me] 27)).alloc (.cells #[.int .i64 mode,.int .i64 method,.int .i64 t1,.int .i64 t2] 29)) (.cells #[.bool false,.slice none 0 0,.bool false,.slice none 0 0] 178) none)
  rw [World.size_alloc] at HSB
  have HP:=Ac (h.more gw)
  have HK:=Ac (Keeps.more gw)
  have HV:=Ac hv
  have hvb:=hv.bounds
  obtain ⟨c0,c4,c5,c14⟩:=HP.out.cells
  have hNV:=Bd (((w.alloc (.cells #[.slice A1 n1 c1,.slice A2 n2 c2,.int .i64 s1,.int .i64 s2,.int .i64 me] 27)).alloc (.cells #[.int .i64 mode,.int .i64 method,.int .i64 t1,.int .i64 t2] 29)).alloc (.cells #[.bool false,.slice none 0 0,.bool false,.slice none 0 0] 178)) d.val.1 d.val.2 (by omega) (by omega) (by omega) (by omega)
  rw [show decide (NumOK d.val.1 d.val.2)=true from decide_eq_true hv] at hNV
  have HNV:=Ac hNV
  clear h hv hNV
  go_enter Tryz.func95,Tryz.ntmps95
  go_wp2_with fail
  generalize ((w.alloc (.cells #[.slice A1 n1 c1,.slice A2 n2 c2,.int .i64 s1,.int .i64 s2,.int .i64 me] 27)).alloc (.cells #[.int .i64 mode,.int .i64 method,.int .i64 t1,.int .i64 t2] 29)).alloc (.cells #[.bool false,.slice none 0 0,.bool false,.slice none 0 0] 178)=wa at *
  generalize w.heap.size+1=s at *
  refine HNV.out.mono ?_
  rintro e w1 ⟨rfl,hg1⟩
  have HP:=Ac (HP.out.more hg1)
  have HK:=Ac (HK.out.trans (Keeps.more hg1))
  have HSB:=HSB.more hg1
  clear c0 c4 c5 c14 HNV gw hg1
  obtain ⟨c0,c4,c5,c14⟩:=HP.out.cells
  go_wp2_with fail
  refine (Bh w1 d.val.1 d.val.2 HV.out).mono ?_
  rintro e w2 ⟨xb,rfl,hx,hxb,hg2⟩
  have HP:=Ac (HP.out.more hg2)
  have HK:=Ac (HK.out.trans (Keeps.more hg2))
  have HSB:=HSB.more hg2
  clear c0 c4 c5 c14 hx hg2 hxb
  obtain ⟨c0,c4,c5,c14⟩:=HP.out.cells
  obtain ⟨r0,r1,r2,r3,_⟩:=HSB.four
  go_wp2_with fail
  refine (HR.out w2 HP.out).mono ?_
  rintro e w3 ⟨rfl,h1⟩
  go_wp2_with fail
  go_end0
  exact ⟨rfl,Ac ⟨h1.out.1,HK.out.trans h1.out.2⟩⟩
 ·have tk:(d.kind==99)=false:=kne (by omega)
  have tk':(d.kind==108)=true:=by rw [beq_iff_eq];exact hkd
  clear hkd
  have gw:=Ae (Ae (Af w (.cells #[.slice A1 n1 c1,.slice A2 n2 c2,.int .i64 s1,.int .i64 s2,.int .i64 me] 27) none) (Af (w.alloc (.cells #[.slice A1 n1 c1,.slice A2 n2 c2,.int .i64 s1,.int .i64 s2,.int .i64 me] 27)) (.cells #[.int .i64 mode,.int .i64 method,.int .i64 t1,.int .i64 t2] 29) none)) (Af ((w.alloc (.cells #[.slice A1 n1 c1,.slice A2 n2 c2,.int .i64 s1,.int .i64 s2,.int .i64 me] 27)).alloc (.cells #[.int .i64 mode,.int .i64 method,.int .i64 t1,.int .i64 t2] 29)) (.cells #[.bool false,.slice none 0 0,.bool false,.slice none 0 0] 178) none)
  have HSB:=(Blk.new (w.alloc (.cells #[.slice A1 n1 c1,.slice A2 n2 c2,.int .i64 s1,.int .i64 s2,.int .i64 me] 27)) #[.int .i64 mode,.int .i64 method,.int .i64 t1,.int .i64 t2] 29).more (Af ((w.alloc (.cells #[.slice A1 n1 c1,.slice A2 n2 c2,.int .i64 s1,.int .i64 s2,.int .i64 me] 27)).alloc (.cells #[.int .i64 mode,.int .i64 method,.int .i64 t1,.int .i64 t2] 29)) (.cells #[.bool false,.slice none 0 0,.bool false,.slice none 0 0] 178) none)
  rw [World.size_alloc] at HSB
  have HP:=Ac (h.more gw)
  have HK:=Ac (Keeps.more gw)
  have HV:=Ac hv
  have hvb:=hv.bounds
  obtain ⟨c0,c4,c5,c14⟩:=HP.out.cells
  have hNV:=Bd (((w.alloc (.cells #[.slice A1 n1 c1,.slice A2 n2 c2,.int .i64 s1,.int .i64 s2,.int .i64 me] 27)).alloc (.cells #[.int .i64 mode,.int .i64 method,.int .i64 t1,.int .i64 t2] 29)).alloc (.cells #[.bool false,.slice none 0 0,.bool false,.slice none 0 0] 178)) d.val.1 d.val.2 (by omega) (by omega) (by omega) (by omega)
  rw [show decide (NumOK d.val.1 d.val.2)=true from decide_eq_true hv] at hNV
  have HNV:=Ac hNV
  clear h hv hNV
  go_enter Tryz.func95,Tryz.ntmps95
  go_wp2_with fail
  generalize ((w.alloc (.cells #[.slice A1 n1 c1,.slice A2 n2 c2,.int .i64 s1,.int .i64 s2,.int .i64 me] 27)).alloc (.cells #[.int .i64 mode,.int .i64 method,.int .i64 t1,.int .i64 t2] 29)).alloc (.cells #[.bool false,.slice none 0 0,.bool false,.slice none 0 0] 178)=wa at *
  generalize w.heap.size+1=s at *
  refine HNV.out.mono ?_
  rintro e w1 ⟨rfl,hg1⟩
  have HP:=Ac (HP.out.more hg1)
  have HK:=Ac (HK.out.trans (Keeps.more hg1))
  have HSB:=HSB.more hg1
  clear c0 c4 c5 c14 HNV gw hg1
  obtain ⟨c0,c4,c5,c14⟩:=HP.out.cells
  go_wp2_with fail
  refine (Bh w1 d.val.1 d.val.2 HV.out).mono ?_
  rintro e w2 ⟨xb,rfl,hx,hxb,hg2⟩
  have HP:=Ac (HP.out.more hg2)
  have HK:=Ac (HK.out.trans (Keeps.more hg2))
  have HSB:=HSB.more hg2
  clear c0 c4 c5 c14 hx hg2 hxb
  obtain ⟨c0,c4,c5,c14⟩:=HP.out.cells
  obtain ⟨r0,r1,r2,r3,_⟩:=HSB.four
  go_wp2_with fail
  refine (HR.out w2 HP.out).mono ?_
  rintro e w3 ⟨rfl,h1⟩
  go_wp2_with fail
  go_end0
  exact ⟨rfl,Ac ⟨h1.out.1,HK.out.trans h1.out.2⟩⟩
end
section
open Go.RowKit Go.Maps
open Rat
theorem PenS.mcells {W0 w:World} {pb:Nat} {d:DevP} {An Av As Ag Am:Option Addr} {cn cv cs cg cm:Nat} {br:List Int} {k:Int} {L:List StampP} (h:PenS W0 w pb d An cn Av cv As cs Ag cg Am cm br k L) :
  w.cell? ⟨pb,9,none⟩=some (.string d.mname)∧w.cell? ⟨pb,10,none⟩=some (.int .u8 d.mkind)∧w.cell? ⟨pb,11,none⟩=some (.slice Ag d.mg.length cg)∧w.cell? ⟨pb,12,none⟩=some (.slice Am d.mv.length cm):=by
 obtain ⟨Ab,nb,cb,lv,xs,h1,h2,h3,h4,h5⟩:=h.pen
 exact ⟨h2.cell 9,h2.cell 10,h2.cell 11,h2.cell 12⟩
theorem Hi (w:World) (q:Rat) (A1:Option Addr) (n1 c1:Nat) (A2:Option Addr) (n2 c2:Nat) (h1:Nums w (.slice A1 n1 c1) (digs q.num)) (h2:Nums w (.slice A2 n2 c2) (digs (q.den:Int))) (lq:LimQ q 549755813888) :
  Calls Tryz.prog 97 #[.agg #[.bool (decide (q.num<0)),.slice A1 n1 c1,.bool false,.slice A2 n2 c2]] w fun e w'=>∃ b,e=.returned (.pointer (some ⟨b,0,none⟩))∧RatB w' b q∧w.heap.size≤b∧w.grownBy w' none :=
 (Et w _ false _ _ _ _ h1 h2 lq.1 lq.2 (Iq _)).mono fun e w' ⟨b,e1,e2,e3,e4⟩=>⟨b,e1,by rw [Hn] at e2;exact e2,e3,e4⟩
set_option maxRecDepth 100000 in
theorem A1f (W0 w:World) (pb:Nat) (d:DevP) (An:Option Addr) (cn:Nat) (Av:Option Addr) (cv:Nat) (As:Option Addr) (cs:Nat) (Ag:Option Addr) (cg:Nat) (Am:Option Addr) (cm:Nat) (br:List Int) (k:Int) (L:List StampP) (h:PenS W0 w pb d An cn Av cv As cs Ag cg Am cm br k L) (hn:NodesOK d) (h2:2≤d.nodes.length) (hkd:d.kind=115) (hv:NumOK d.val.1 d.val.2) (hL:L.length≤1000) (hmo:Bk d.mname.data.toList d.mkind d.mg d.mv=true) (sg:Nat) (hsl:sg<d.mg.length) (lg:LimQ (pQ (d.mg.getD sg (0,0))) 128) (A1:Option Addr) (n1 c1:Nat) (A2:Option Addr) (n2 c2:Nat) (s1 s2 me mode method t1 t2:Int) :
    Calls Tryz.prog 95 #[.pointer (some ⟨pb,0,none⟩),.agg #[.slice A1 n1 c1,.slice A2 n2 c2,.int .i64 s1,.int .i64 s2,.int .i64 me],.agg #[.int .i64 mode,.int .i64 method,.int .i64 t1,.int .i64 t2],.int .i64 (sg:Int)] w fun e w'=>e=.returned (.tuple #[])∧Hid (PenS W0 w' pb d An cn Av cv As cs Ag cg Am cm br k (L++C7 (d.at 0) (d.at 1) (d.at 0) (d.at 1) (pQ (d.mg.getD sg (0,0))))∧Keeps w w'):=by
  have tk1:=kne (show d.kind≠114 by omega)
  have tk2:=kne (show d.kind≠103 by omega)
  have tk3:=kne (show d.kind≠118 by omega)
  have tk4:=kne (show d.kind≠105 by omega)
  have tk5:=kne (show d.kind≠101 by omega)
  have tk6:=kne (show d.kind≠102 by omega)
  have tk7:=kne (show d.kind≠104 by omega)
  have tk8:=kne (show d.kind≠116 by omega)
  have tk9:=kne (show d.kind≠99 by omega)
  have tk10:=kne (show d.kind≠108 by omega)
  have tk11:=kne (show d.kind≠100 by omega)
  have tk:(d.kind==115)=true:=by rw [beq_iff_eq];exact hkd
  have HMO:=Ac hmo
  have HSL:=Ac hsl
  obtain ⟨C,hC⟩:∃ C,Hm d.mkind d.mg d.mv sg=C:=⟨_,rfl⟩
  obtain ⟨G,hG⟩:∃ G,pQ (d.mg.getD sg (0,0))=G:=⟨_,rfl⟩
  have HCE:=Ac hC
  have HGE:=Ac hG
  rw [hG] at lg ⊢
  have HLG:=Ac lg
  clear hkd hmo hsl hC hG lg
  have gw:=Ae (Ae (Af w (.cells #[.slice A1 n1 c1,.slice A2 n2 c2,.int .i64 s1,.int .i64 s2,.int .i64 me] 27) none) (Af (w.alloc (.cells #[.slice A1 n1 c1,.slice A2 n2 c2,.int .i64 s1,.int .i64 s2,.int .i64 me] 27)) (.cells #[.int .i64 mode,.int .i64 method,.int .i64 t1,.int .i64 t2] 29) none)) (Af ((w.alloc (.cells #[.slice A1 n1 c1,.slice A2 n2 c2,.int .i64 s1,.int .i64 s2,.int .i64 me] 27)).alloc (.cells #[.int .i64 mode,.int .i64 method,.int .i64 t1,.int .i64 t2] 29)) (.cells #[.bool false,.slice none 0 0,.bool false,.slice none 0 0] 178) none)
  have HP:=Ac (h.more gw)
  have HN:=Ac hn
  have HK:=Ac (Keeps.more gw)
  have HI:=Ac (fun i=>hn.i64 i)
  have HV:=Ac hv
  have hvb:=hv.bounds
  obtain ⟨c0,c4,c5,c14⟩:=HP.out.cells
  have hNV:=Bd (((w.alloc (.cells #[.slice A1 n1 c1,.slice A2 n2 c2,.int .i64 s1,.int .i64 s2,.int .i64 me] 27)).alloc (.cells #[.int .i64 mode,.int .i64 method,.int .i64 t1,.int .i64 t2] 29)).alloc (.cells #[.bool false,.slice none 0 0,.bool false,.slice none 0 0] 178)) d.val.1 d.val.2 (by omega) (by omega) (by omega) (by omega)
  rw [show decide (NumOK d.val.1 d.val.2)=true from decide_eq_true hv] at hNV
  have HNV:=Ac hNV
  clear h hn hv hNV
  go_enter Tryz.func95,Tryz.ntmps95
  go_wp2_with fail
  generalize ((w.alloc (.cells #[.slice A1 n1 c1,.slice A2 n2 c2,.int .i64 s1,.int .i64 s2,.int .i64 me] 27)).alloc (.cells #[.int .i64 mode,.int .i64 method,.int .i64 t1,.int .i64 t2] 29)).alloc (.cells #[.bool false,.slice none 0 0,.bool false,.slice none 0 0] 178)=wa at *
  refine HNV.out.mono ?_
  rintro e w1 ⟨rfl,hg1⟩
  have HP:=Ac (HP.out.more hg1)
  have HK:=Ac (HK.out.trans (Keeps.more hg1))
  clear c0 c4 c5 c14 HNV gw hg1
  obtain ⟨c0,c4,c5,c14⟩:=HP.out.cells
  go_wp2_with fail
  refine (Bh w1 d.val.1 d.val.2 HV.out).mono ?_
  rintro e w2 ⟨xb,rfl,hx,hxb,hg2⟩
  have HP:=Ac (HP.out.more hg2)
  have HK:=Ac (HK.out.trans (Keeps.more hg2))
  have HX:=Ac hx
  clear c0 c4 c5 c14 hx hg2 hxb
  obtain ⟨c0,c4,c5,c14⟩:=HP.out.cells
  obtain ⟨m9,m10,m11,m12⟩:=HP.out.mcells
  have HPT:=Ac (Vf w2 d.mname d.mkind _ _ d.mg d.mv sg (HP.out.dev.g.more HP.out.grown) (HP.out.dev.v.more HP.out.grown) HMO.out HSL.out)
  rw [HGE.out,HCE.out] at HPT
  go_wp2_with fail
  refine HPT.out.mono ?_
  rintro e w3 ⟨v1,v2,rfl,hv1,hv2,hg3⟩
  obtain ⟨U1,k1,e1,U2,k2,e2,rfl,hn1,hn2⟩:=hv1.forms
  obtain ⟨U3,k3,e3,U4,k4,e4,rfl,hn3,hn4⟩:=hv2.forms
  have HP:=Ac (HP.out.more hg3)
  have HK:=Ac (HK.out.trans (Keeps.more hg3))
  clear c0 c4 c5 c14 m9 m10 m11 m12 HPT hv1 hv2 hg3
  go_wp2_with fail
  have g3:=Ae (Af w3 (.cells #[.bool (decide (G.num<0)),.slice U1 k1 e1,.bool false,.slice U2 k2 e2] 94) none) (Af (w3.alloc (.cells #[.bool (decide (G.num<0)),.slice U1 k1 e1,.bool false,.slice U2 k2 e2] 94)) (.cells #[.bool (decide (C.num<0)),.slice U3 k3 e3,.bool false,.slice U4 k4 e4] 94) none)
  have HGB:=Ac ((Blk.new w3 #[.bool (decide (G.num<0)),.slice U1 k1 e1,.bool false,.slice U2 k2 e2] 94).more (Af (w3.alloc (.cells #[.bool (decide (G.num<0)),.slice U1 k1 e1,.bool false,.slice U2 k2 e2] 94)) (.cells #[.bool (decide (C.num<0)),.slice U3 k3 e3,.bool false,.slice U4 k4 e4] 94) none))
  have hCB:=Blk.new (w3.alloc (.cells #[.bool (decide (G.num<0)),.slice U1 k1 e1,.bool false,.slice U2 k2 e2] 94)) #[.bool (decide (C.num<0)),.slice U3 k3 e3,.bool false,.slice U4 k4 e4] 94
  rw [World.size_alloc] at hCB
  have HCB:=Ac hCB
  have HP:=Ac (HP.out.more g3)
  have HK:=Ac (HK.out.trans (Keeps.more g3))
  have HN1:=Ac (hn1.more g3)
  have HN2:=Ac (hn2.more g3)
  have HN3:=Ac (hn3.more g3)
  have HN4:=Ac (hn4.more g3)
  clear g3 hCB hn1 hn2 hn3 hn4
  generalize (w3.alloc (.cells #[.bool (decide (G.num<0)),.slice U1 k1 e1,.bool false,.slice U2 k2 e2] 94)).alloc (.cells #[.bool (decide (C.num<0)),.slice U3 k3 e3,.bool false,.slice U4 k4 e4] 94)=w4 at *
  generalize w3.heap.size=gs at *
  obtain ⟨g0,g1,g2,g3,_⟩:=HGB.out.four
  have HCW:=Ac (fun w' (h:w4.grownBy w' none)=>And.intro (Aj h g0 (by simp)) (And.intro (Aj h g1 (by simp)) (And.intro (Aj h g2 (by simp)) (Aj h g3 (by simp)))))
  go_cut [] (fun wx=>Hid (PenS W0 wx pb d An cn Av cv As cs Ag cg Am cm br k (L++C7 (d.at 0) (d.at 1) (d.at 0) (d.at 1) G)∧Keeps w4 wx))
  case first =>
   as_aux_lemma =>
    go_region_held3 (fun w'=>w'.cell? ⟨gs,0,none⟩=some (.bool (decide (G.num<0)))∧w'.cell? ⟨gs,1,none⟩=some (.slice U1 k1 e1)∧w'.cell? ⟨gs,2,none⟩=some (.bool false)∧w'.cell? ⟨gs,3,none⟩=some (.slice U2 k2 e2)) (first | exact ⟨g0',g1',g2',g3'⟩ | (refine HCW.out _ ?_;(focus ((repeat (first | assumption | exact Al _ _ | exact Ai _ _ | exact Af _ _ _ | refine Ae ?_ (Af _ _ _) | refine Ae ?_ (Ai _ _) | refine Ae ?_ (by assumption)));done)))) (first
     | (go_at_call_of 151 (Value.int .i64 0);refine (Be W0 _ pb d An cn Av cv As cs Ag cg Am cm br k _ (HP.out.more (by (focus ((repeat (first | assumption | exact Al _ _ | exact Ai _ _ | exact Af _ _ _ | refine Ae ?_ (Af _ _ _) | refine Ae ?_ (Ai _ _) | refine Ae ?_ (by assumption)));done)))) HN.out 0 (by omega) (by omega)).mono ?_;rintro e w' ⟨rfl,rfl⟩)
     | (go_at_call_of 151 (Value.int .i64 1);refine (Be W0 _ pb d An cn Av cv As cs Ag cg Am cm br k _ (HP.out.more (by (focus ((repeat (first | assumption | exact Al _ _ | exact Ai _ _ | exact Af _ _ _ | refine Ae ?_ (Af _ _ _) | refine Ae ?_ (Ai _ _) | refine Ae ?_ (by assumption)));done)))) HN.out 1 (by omega) (by omega)).mono ?_;rintro e w' ⟨rfl,rfl⟩)
     | (go_at_call 97;refine (Hi _ G U1 k1 e1 U2 k2 e2 (HN1.out.more (by (focus ((repeat (first | assumption | exact Al _ _ | exact Ai _ _ | exact Af _ _ _ | refine Ae ?_ (Af _ _ _) | refine Ae ?_ (Ai _ _) | refine Ae ?_ (by assumption)));done)))) (HN2.out.more (by (focus ((repeat (first | assumption | exact Al _ _ | exact Ai _ _ | exact Af _ _ _ | refine Ae ?_ (Af _ _ _) | refine Ae ?_ (Ai _ _) | refine Ae ?_ (by assumption)));done)))) (HLG.out.mono (by omega))).mono ?_;rintro e w5 ⟨yb,rfl,hyb,_,hg5⟩)
     | (go_at_call 150;refine (Fr W0 _ pb d An cn Av cv As cs Ag cg Am cm br k _ (HP.out.more (by (focus ((repeat (first | assumption | exact Al _ _ | exact Ai _ _ | exact Af _ _ _ | refine Ae ?_ (Af _ _ _) | refine Ae ?_ (Ai _ _) | refine Ae ?_ (by assumption)));done)))) HN.out h2 (d.at 0) (d.at 1) (HI.out 0) (HI.out 1) yb G (hyb.more (by (focus ((repeat (first | assumption | exact Al _ _ | exact Ai _ _ | exact Af _ _ _ | refine Ae ?_ (Af _ _ _) | refine Ae ?_ (Ai _ _) | refine Ae ?_ (by assumption)));done)))) (HLG.out.mono (by omega)) (by omega)).mono ?_;rintro e w7 ⟨rfl,h7⟩;obtain ⟨g0',g1',g2',g3',_⟩:=(h7.out.2.four (HGB.out.more (by (focus ((repeat (first | assumption | exact Al _ _ | exact Ai _ _ | exact Af _ _ _ | refine Ae ?_ (Af _ _ _) | refine Ae ?_ (Ai _ _) | refine Ae ?_ (by assumption)));done))))).four))
    all_goals
      go_wp2_with fail
      go_meet
      exact Ac ⟨h7.out.1,(Keeps.more (show w4.grownBy _ none by (focus ((repeat (first | assumption | exact Al _ _ | exact Ai _ _ | exact Af _ _ _ | refine Ae ?_ (Af _ _ _) | refine Ae ?_ (Ai _ _) | refine Ae ?_ (by assumption)));done)))).trans h7.out.2⟩
  case rest =>
   as_aux_lemma =>
    have h1:=hcut
    have HP:=Ac h1.out.1
    have HK:=Ac (HK.out.trans h1.out.2)
    clear h1 hcut g0 g1 g2 g3
    obtain ⟨c0,c4,c5,c14⟩:=HP.out.cells
    go_wp2_with fail
    go_end0
    exact ⟨rfl,Ac ⟨HP.out,HK.out⟩⟩
set_option maxRecDepth 100000 in
theorem A18 (W0 w:World) (pb:Nat) (d:DevP) (An:Option Addr) (cn:Nat) (Av:Option Addr) (cv:Nat) (As:Option Addr) (cs:Nat) (Ag:Option Addr) (cg:Nat) (Am:Option Addr) (cm:Nat) (br:List Int) (k:Int) (L:List StampP) (h:PenS W0 w pb d An cn Av cv As cs Ag cg Am cm br k L) (hn:NodesOK d) (h2:2≤d.nodes.length) (hkd:d.kind=100) (hv:NumOK d.val.1 d.val.2) (hL:L.length≤1000) (hmo:Bk d.mname.data.toList d.mkind d.mg d.mv=true) (sg:Nat) (hsl:sg<d.mg.length) (lg:LimQ (pQ (d.mg.getD sg (0,0))) 128) (lc:LimQ (Hm d.mkind d.mg d.mv sg) 128) (A1:Option Addr) (n1 c1:Nat) (A2:Option Addr) (n2 c2:Nat) (s1 s2 me mode method t1 t2:Int) :
    Calls Tryz.prog 95 #[.pointer (some ⟨pb,0,none⟩),.agg #[.slice A1 n1 c1,.slice A2 n2 c2,.int .i64 s1,.int .i64 s2,.int .i64 me],.agg #[.int .i64 mode,.int .i64 method,.int .i64 t1,.int .i64 t2],.int .i64 (sg:Int)] w fun e w'=>e=.returned (.tuple #[])∧Hid (PenS W0 w' pb d An cn Av cv As cs Ag cg Am cm br k (L++(C7 (d.at 0) (d.at 1) (d.at 0) (d.at 1) (pQ (d.mg.getD sg (0,0)))++(put1 4 (d.at 0) 0 (-(Hm d.mkind d.mg d.mv sg))++put1 4 (d.at 1) 0 (Hm d.mkind d.mg d.mv sg))))∧Keeps w w'):=by
  have tk1:=kne (show d.kind≠114 by omega)
  have tk2:=kne (show d.kind≠103 by omega)
  have tk3:=kne (show d.kind≠118 by omega)
  have tk4:=kne (show d.kind≠105 by omega)
  have tk5:=kne (show d.kind≠101 by omega)
  have tk6:=kne (show d.kind≠102 by omega)
  have tk7:=kne (show d.kind≠104 by omega)
  have tk8:=kne (show d.kind≠116 by omega)
  have tk9:=kne (show d.kind≠99 by omega)
  have tk10:=kne (show d.kind≠108 by omega)
  have tk:(d.kind==100)=true:=by rw [beq_iff_eq];exact hkd
  have HMO:=Ac hmo
  have HSL:=Ac hsl
  obtain ⟨C,hC⟩:∃ C,Hm d.mkind d.mg d.mv sg=C:=⟨_,rfl⟩
  obtain ⟨G,hG⟩:∃ G,pQ (d.mg.getD sg (0,0))=G:=⟨_,rfl⟩
  have HCE:=Ac hC
  have HGE:=Ac hG
  rw [hG] at lg ⊢
  rw [hC] at lc ⊢
  have HLG:=Ac lg
  have HLC:=Ac lc
  have HLCN:=Ac lc.neg
  clear hkd hmo hsl hC hG lg lc
  have gw:=Ae (Ae (Af w (.cells #[.slice A1 n1 c1,.slice A2 n2 c2,.int .i64 s1,.int .i64 s2,.int .i64 me] 27) none) (Af (w.alloc (.cells #[.slice A1 n1 c1,.slice A2 n2 c2,.int .i64 s1,.int .i64 s2,.int .i64 me] 27)) (.cells #[.int .i64 mode,.int .i64 method,.int .i64 t1,.int .i64 t2] 29) none)) (Af ((w.alloc (.cells #[.slice A1 n1 c1,.slice A2 n2 c2,.int .i64 s1,.int .i64 s2,.int .i64 me] 27)).alloc (.cells #[.int .i64 mode,.int .i64 method,.int .i64 t1,.int .i64 t2] 29)) (.cells #[.bool false,.slice none 0 0,.bool false,.slice none 0 0] 178) none)
  have HP:=Ac (h.more gw)
  have HN:=Ac hn
  have HK:=Ac (Keeps.more gw)
  have HI:=Ac (fun i=>hn.i64 i)
  have HV:=Ac hv
  have hvb:=hv.bounds
  obtain ⟨c0,c4,c5,c14⟩:=HP.out.cells
  have hNV:=Bd (((w.alloc (.cells #[.slice A1 n1 c1,.slice A2 n2 c2,.int .i64 s1,.int .i64 s2,.int .i64 me] 27)).alloc (.cells #[.int .i64 mode,.int .i64 method,.int .i64 t1,.int .i64 t2] 29)).alloc (.cells #[.bool false,.slice none 0 0,.bool false,.slice none 0 0] 178)) d.val.1 d.val.2 (by omega) (by omega) (by omega) (by omega)
  rw [show decide (NumOK d.val.1 d.val.2)=true from decide_eq_true hv] at hNV
  have HNV:=Ac hNV
  clear h hn hv hNV
  go_enter Tryz.func95,Tryz.ntmps95
  go_wp2_with fail
  generalize ((w.alloc (.cells #[.slice A1 n1 c1,.slice A2 n2 c2,.int .i64 s1,.int .i64 s2,.int .i64 me] 27)).alloc (.cells #[.int .i64 mode,.int .i64 method,.int .i64 t1,.int .i64 t2] 29)).alloc (.cells #[.bool false,.slice none 0 0,.bool false,.slice none 0 0] 178)=wa at *
  refine HNV.out.mono ?_
  rintro e w1 ⟨rfl,hg1⟩
  have HP:=Ac (HP.out.more hg1)
  have HK:=Ac (HK.out.trans (Keeps.more hg1))
  clear c0 c4 c5 c14 HNV gw hg1
  obtain ⟨c0,c4,c5,c14⟩:=HP.out.cells
  go_wp2_with fail
  refine (Bh w1 d.val.1 d.val.2 HV.out).mono ?_
  rintro e w2 ⟨xb,rfl,hx,hxb,hg2⟩
  have HP:=Ac (HP.out.more hg2)
  have HK:=Ac (HK.out.trans (Keeps.more hg2))
  have HX:=Ac hx
  clear c0 c4 c5 c14 hx hg2 hxb
  obtain ⟨c0,c4,c5,c14⟩:=HP.out.cells
  obtain ⟨m9,m10,m11,m12⟩:=HP.out.mcells
  have HPT:=Ac (Vf w2 d.mname d.mkind _ _ d.mg d.mv sg (HP.out.dev.g.more HP.out.grown) (HP.out.dev.v.more HP.out.grown) HMO.out HSL.out)
  rw [HGE.out,HCE.out] at HPT
  go_wp2_with fail
  refine HPT.out.mono ?_
  rintro e w3 ⟨v1,v2,rfl,hv1,hv2,hg3⟩
  obtain ⟨U1,k1,e1,U2,k2,e2,rfl,hn1,hn2⟩:=hv1.forms
  obtain ⟨U3,k3,e3,U4,k4,e4,rfl,hn3,hn4⟩:=hv2.forms
  have HP:=Ac (HP.out.more hg3)
  have HK:=Ac (HK.out.trans (Keeps.more hg3))
  clear c0 c4 c5 c14 m9 m10 m11 m12 HPT hv1 hv2 hg3
  go_wp2_with fail
  have g3:=Ae (Af w3 (.cells #[.bool (decide (G.num<0)),.slice U1 k1 e1,.bool false,.slice U2 k2 e2] 94) none) (Af (w3.alloc (.cells #[.bool (decide (G.num<0)),.slice U1 k1 e1,.bool false,.slice U2 k2 e2] 94)) (.cells #[.bool (decide (C.num<0)),.slice U3 k3 e3,.bool false,.slice U4 k4 e4] 94) none)
  have HGB:=Ac ((Blk.new w3 #[.bool (decide (G.num<0)),.slice U1 k1 e1,.bool false,.slice U2 k2 e2] 94).more (Af (w3.alloc (.cells #[.bool (decide (G.num<0)),.slice U1 k1 e1,.bool false,.slice U2 k2 e2] 94)) (.cells #[.bool (decide (C.num<0)),.slice U3 k3 e3,.bool false,.slice U4 k4 e4] 94) none))
  have hCB:=Blk.new (w3.alloc (.cells #[.bool (decide (G.num<0)),.slice U1 k1 e1,.bool false,.slice U2 k2 e2] 94)) #[.bool (decide (C.num<0)),.slice U3 k3 e3,.bool false,.slice U4 k4 e4] 94
  rw [World.size_alloc] at hCB
  have HCB:=Ac hCB
  have HP:=Ac (HP.out.more g3)
  have HK:=Ac (HK.out.trans (Keeps.more g3))
  have HN1:=Ac (hn1.more g3)
  have HN2:=Ac (hn2.more g3)
  have HN3:=Ac (hn3.more g3)
  have HN4:=Ac (hn4.more g3)
  clear g3 hCB hn1 hn2 hn3 hn4
  generalize (w3.alloc (.cells #[.bool (decide (G.num<0)),.slice U1 k1 e1,.bool false,.slice U2 k2 e2] 94)).alloc (.cells #[.bool (decide (C.num<0)),.slice U3 k3 e3,.bool false,.slice U4 k4 e4] 94)=w4 at *
  generalize w3.heap.size=gs at *
  obtain ⟨g0,g1,g2,g3,_⟩:=HGB.out.four
  have HCW:=Ac (fun w' (h:w4.grownBy w' none)=>And.intro (Aj h g0 (by simp)) (And.intro (Aj h g1 (by simp)) (And.intro (Aj h g2 (by simp)) (Aj h g3 (by simp)))))
  go_cut [] (fun wx=>Hid (PenS W0 wx pb d An cn Av cv As cs Ag cg Am cm br k (L++C7 (d.at 0) (d.at 1) (d.at 0) (d.at 1) G)∧Keeps w4 wx))
  case first =>
   as_aux_lemma =>
    go_region_held3 (fun w'=>w'.cell? ⟨gs,0,none⟩=some (.bool (decide (G.num<0)))∧w'.cell? ⟨gs,1,none⟩=some (.slice U1 k1 e1)∧w'.cell? ⟨gs,2,none⟩=some (.bool false)∧w'.cell? ⟨gs,3,none⟩=some (.slice U2 k2 e2)) (first | exact ⟨g0',g1',g2',g3'⟩ | (refine HCW.out _ ?_;(focus ((repeat (first | assumption | exact Al _ _ | exact Ai _ _ | exact Af _ _ _ | refine Ae ?_ (Af _ _ _) | refine Ae ?_ (Ai _ _) | refine Ae ?_ (by assumption)));done)))) (first
     | (go_at_call_of 151 (Value.int .i64 0);refine (Be W0 _ pb d An cn Av cv As cs Ag cg Am cm br k _ (HP.out.more (by (focus ((repeat (first | assumption | exact Al _ _ | exact Ai _ _ | exact Af _ _ _ | refine Ae ?_ (Af _ _ _) | refine Ae ?_ (Ai _ _) | refine Ae ?_ (by assumption)));done)))) HN.out 0 (by omega) (by omega)).mono ?_;rintro e w' ⟨rfl,rfl⟩)
     | (go_at_call_of 151 (Value.int .i64 1);refine (Be W0 _ pb d An cn Av cv As cs Ag cg Am cm br k _ (HP.out.more (by (focus ((repeat (first | assumption | exact Al _ _ | exact Ai _ _ | exact Af _ _ _ | refine Ae ?_ (Af _ _ _) | refine Ae ?_ (Ai _ _) | refine Ae ?_ (by assumption)));done)))) HN.out 1 (by omega) (by omega)).mono ?_;rintro e w' ⟨rfl,rfl⟩)
     | (go_at_call 97;refine (Hi _ G U1 k1 e1 U2 k2 e2 (HN1.out.more (by (focus ((repeat (first | assumption | exact Al _ _ | exact Ai _ _ | exact Af _ _ _ | refine Ae ?_ (Af _ _ _) | refine Ae ?_ (Ai _ _) | refine Ae ?_ (by assumption)));done)))) (HN2.out.more (by (focus ((repeat (first | assumption | exact Al _ _ | exact Ai _ _ | exact Af _ _ _ | refine Ae ?_ (Af _ _ _) | refine Ae ?_ (Ai _ _) | refine Ae ?_ (by assumption)));done)))) (HLG.out.mono (by omega))).mono ?_;rintro e w5 ⟨yb,rfl,hyb,_,hg5⟩)
     | (go_at_call 150;refine (Fr W0 _ pb d An cn Av cv As cs Ag cg Am cm br k _ (HP.out.more (by (focus ((repeat (first | assumption | exact Al _ _ | exact Ai _ _ | exact Af _ _ _ | refine Ae ?_ (Af _ _ _) | refine Ae ?_ (Ai _ _) | refine Ae ?_ (by assumption)));done)))) HN.out h2 (d.at 0) (d.at 1) (HI.out 0) (HI.out 1) yb G (hyb.more (by (focus ((repeat (first | assumption | exact Al _ _ | exact Ai _ _ | exact Af _ _ _ | refine Ae ?_ (Af _ _ _) | refine Ae ?_ (Ai _ _) | refine Ae ?_ (by assumption)));done)))) (HLG.out.mono (by omega)) (by omega)).mono ?_;rintro e w7 ⟨rfl,h7⟩;obtain ⟨g0',g1',g2',g3',_⟩:=(h7.out.2.four (HGB.out.more (by (focus ((repeat (first | assumption | exact Al _ _ | exact Ai _ _ | exact Af _ _ _ | refine Ae ?_ (Af _ _ _) | refine Ae ?_ (Ai _ _) | refine Ae ?_ (by assumption)));done))))).four))
    all_goals
      go_wp2_with fail
      go_meet
      exact Ac ⟨h7.out.1,(Keeps.more (show w4.grownBy _ none by (focus ((repeat (first | assumption | exact Al _ _ | exact Ai _ _ | exact Af _ _ _ | refine Ae ?_ (Af _ _ _) | refine Ae ?_ (Ai _ _) | refine Ae ?_ (by assumption)));done)))).trans h7.out.2⟩
  case rest =>
   as_aux_lemma =>
    have h1:=hcut
    have HP:=Ac h1.out.1
    have HK:=Ac (HK.out.trans h1.out.2)
    have HCB:=Ac (h1.out.2.four HCB.out)
    have HN3:=Ac (h1.out.2.nums HN3.out)
    have HN4:=Ac (h1.out.2.nums HN4.out)
    clear h1 hcut g0 g1 g2 g3 HCW
    obtain ⟨wx,hwx⟩:∃ x,x=wc:=⟨_,rfl⟩
    rw [←hwx] at HP HK HCB HN3 HN4 ⊢
    clear hwx wc
    have l1:(L++C7 (d.at 0) (d.at 1) (d.at 0) (d.at 1) G).length≤1004:=by rw [List.length_append];have:=Ky (d.at 0) (d.at 1) (d.at 0) (d.at 1) G;omega
    have l2:=Ch 4 (d.at 0) 0 (-C)
    have HFIN:Hid ((L++C7 (d.at 0) (d.at 1) (d.at 0) (d.at 1) G)++put1 4 (d.at 0) 0 (-C)++put1 4 (d.at 1) 0 C=L++(C7 (d.at 0) (d.at 1) (d.at 0) (d.at 1) G++(put1 4 (d.at 0) 0 (-C)++put1 4 (d.at 1) 0 C))):=Ac (by simp only [List.append_assoc])
    obtain ⟨c0,c4,c5,c14⟩:=HP.out.cells
    obtain ⟨g0,g1,g2,g3,_⟩:=HCB.out.four
    have HCW:=Ac (fun w' (h:wx.grownBy w' none)=>And.intro (Aj h g0 (by simp)) (And.intro (Aj h g1 (by simp)) (And.intro (Aj h g2 (by simp)) (Aj h g3 (by simp)))))
    go_upto_region 42 with (fail)
    clear c0 c4 c5 c14
    go_cut [] (fun wy=>Hid (PenS W0 wy pb d An cn Av cv As cs Ag cg Am cm br k ((L++C7 (d.at 0) (d.at 1) (d.at 0) (d.at 1) G)++put1 4 (d.at 0) 0 (-C))∧Keeps wx wy))
    case first =>
      go_region_held3 (fun w'=>w'.cell? ⟨gs+1,0,none⟩=some (.bool (decide (C.num<0)))∧w'.cell? ⟨gs+1,1,none⟩=some (.slice U3 k3 e3)∧w'.cell? ⟨gs+1,2,none⟩=some (.bool false)∧w'.cell? ⟨gs+1,3,none⟩=some (.slice U4 k4 e4)) (first | exact ⟨g0',g1',g2',g3'⟩ | (refine HCW.out _ ?_;(focus ((repeat (first | assumption | exact Al _ _ | exact Ai _ _ | exact Af _ _ _ | refine Ae ?_ (Af _ _ _) | refine Ae ?_ (Ai _ _) | refine Ae ?_ (by assumption)));done)))) (first
       | (go_at_call_of 151 (Value.int .i64 0);refine (Be W0 _ pb d An cn Av cv As cs Ag cg Am cm br k _ (HP.out.more (by (focus ((repeat (first | assumption | exact Al _ _ | exact Ai _ _ | exact Af _ _ _ | refine Ae ?_ (Af _ _ _) | refine Ae ?_ (Ai _ _) | refine Ae ?_ (by assumption)));done)))) HN.out 0 (by omega) (by omega)).mono ?_;rintro e w' ⟨rfl,rfl⟩)
       | (go_at_call 97;refine (Hi _ C U3 k3 e3 U4 k4 e4 (HN3.out.more (by (focus ((repeat (first | assumption | exact Al _ _ | exact Ai _ _ | exact Af _ _ _ | refine Ae ?_ (Af _ _ _) | refine Ae ?_ (Ai _ _) | refine Ae ?_ (by assumption)));done)))) (HN4.out.more (by (focus ((repeat (first | assumption | exact Al _ _ | exact Ai _ _ | exact Af _ _ _ | refine Ae ?_ (Af _ _ _) | refine Ae ?_ (Ai _ _) | refine Ae ?_ (by assumption)));done)))) (HLC.out.mono (by omega))).mono ?_;rintro e w5 ⟨yb,rfl,hyb,_,hg5⟩)
       | (go_at_call 158;refine (C5 _ yb C (hyb.more (by (focus ((repeat (first | assumption | exact Al _ _ | exact Ai _ _ | exact Af _ _ _ | refine Ae ?_ (Af _ _ _) | refine Ae ?_ (Ai _ _) | refine Ae ?_ (by assumption)));done)))) (HLC.out.mono (by omega))).mono ?_;rintro e w6 ⟨nb',rfl,hnb,hg6⟩)
       | (go_at_call 155;refine (Gi W0 _ pb d An cn Av cv As cs Ag cg Am cm br k _ (HP.out.more (by (focus ((repeat (first | assumption | exact Al _ _ | exact Ai _ _ | exact Af _ _ _ | refine Ae ?_ (Af _ _ _) | refine Ae ?_ (Ai _ _) | refine Ae ?_ (by assumption)));done)))) 4 (d.at 0) 0 ⟨by omega,by omega⟩ (HI.out 0) ⟨by omega,by omega⟩ nb' (-C) (hnb.more (by (focus ((repeat (first | assumption | exact Al _ _ | exact Ai _ _ | exact Af _ _ _ | refine Ae ?_ (Af _ _ _) | refine Ae ?_ (Ai _ _) | refine Ae ?_ (by assumption)));done)))) (HLCN.out.mono (by omega)) (by omega)).mono ?_;rintro e w7 ⟨rfl,h7⟩;obtain ⟨g0',g1',g2',g3',_⟩:=(h7.out.2.four (HCB.out.more (by (focus ((repeat (first | assumption | exact Al _ _ | exact Ai _ _ | exact Af _ _ _ | refine Ae ?_ (Af _ _ _) | refine Ae ?_ (Ai _ _) | refine Ae ?_ (by assumption)));done))))).four))
      all_goals
        go_wp2_with fail
        go_meet
        exact Ac ⟨h7.out.1,(Keeps.more (show wx.grownBy _ none by (focus ((repeat (first | assumption | exact Al _ _ | exact Ai _ _ | exact Af _ _ _ | refine Ae ?_ (Af _ _ _) | refine Ae ?_ (Ai _ _) | refine Ae ?_ (by assumption)));done)))).trans h7.out.2⟩
    case rest =>
      have h1:=hcut
      have HP:=Ac h1.out.1
      have HK:=Ac (HK.out.trans h1.out.2)
      have HCB:=Ac (h1.out.2.four HCB.out)
      have HN3:=Ac (h1.out.2.nums HN3.out)
      have HN4:=Ac (h1.out.2.nums HN4.out)
      clear h1 hcut g0 g1 g2 g3 HCW
      obtain ⟨g0,g1,g2,g3,_⟩:=HCB.out.four
      have HCW:=Ac (fun w' (h:wc.grownBy w' none)=>And.intro (Aj h g0 (by simp)) (And.intro (Aj h g1 (by simp)) (And.intro (Aj h g2 (by simp)) (Aj h g3 (by simp)))))
      go_wp2_with fail
      go_region_held3 (fun w'=>w'.cell? ⟨gs+1,0,none⟩=some (.bool (decide (C.num<0)))∧w'.cell? ⟨gs+1,1,none⟩=some (.slice U3 k3 e3)∧w'.cell? ⟨gs+1,2,none⟩=some (.bool false)∧w'.cell? ⟨gs+1,3,none⟩=some (.slice U4 k4 e4)) (first | exact ⟨g0',g1',g2',g3'⟩ | (refine HCW.out _ ?_;(focus ((repeat (first | assumption | exact Al _ _ | exact Ai _ _ | exact Af _ _ _ | refine Ae ?_ (Af _ _ _) | refine Ae ?_ (Ai _ _) | refine Ae ?_ (by assumption)));done)))) (first
       | (go_at_call_of 151 (Value.int .i64 1);refine (Be W0 _ pb d An cn Av cv As cs Ag cg Am cm br k _ (HP.out.more (by (focus ((repeat (first | assumption | exact Al _ _ | exact Ai _ _ | exact Af _ _ _ | refine Ae ?_ (Af _ _ _) | refine Ae ?_ (Ai _ _) | refine Ae ?_ (by assumption)));done)))) HN.out 1 (by omega) (by omega)).mono ?_;rintro e w' ⟨rfl,rfl⟩)
       | (go_at_call 97;refine (Hi _ C U3 k3 e3 U4 k4 e4 (HN3.out.more (by (focus ((repeat (first | assumption | exact Al _ _ | exact Ai _ _ | exact Af _ _ _ | refine Ae ?_ (Af _ _ _) | refine Ae ?_ (Ai _ _) | refine Ae ?_ (by assumption)));done)))) (HN4.out.more (by (focus ((repeat (first | assumption | exact Al _ _ | exact Ai _ _ | exact Af _ _ _ | refine Ae ?_ (Af _ _ _) | refine Ae ?_ (Ai _ _) | refine Ae ?_ (by assumption)));done)))) (HLC.out.mono (by omega))).mono ?_;rintro e w5 ⟨yb,rfl,hyb,_,hg5⟩)
       | (go_at_call 155;refine (Gi W0 _ pb d An cn Av cv As cs Ag cg Am cm br k _ (HP.out.more (by (focus ((repeat (first | assumption | exact Al _ _ | exact Ai _ _ | exact Af _ _ _ | refine Ae ?_ (Af _ _ _) | refine Ae ?_ (Ai _ _) | refine Ae ?_ (by assumption)));done)))) 4 (d.at 1) 0 ⟨by omega,by omega⟩ (HI.out 1) ⟨by omega,by omega⟩ yb C (hyb.more (by (focus ((repeat (first | assumption | exact Al _ _ | exact Ai _ _ | exact Af _ _ _ | refine Ae ?_ (Af _ _ _) | refine Ae ?_ (Ai _ _) | refine Ae ?_ (by assumption)));done)))) (HLC.out.mono (by omega)) (by simp only [List.length_append] at *;omega)).mono ?_;rintro e w7 ⟨rfl,h7⟩;obtain ⟨g0',g1',g2',g3',_⟩:=(h7.out.2.four (HCB.out.more (by (focus ((repeat (first | assumption | exact Al _ _ | exact Ai _ _ | exact Af _ _ _ | refine Ae ?_ (Af _ _ _) | refine Ae ?_ (Ai _ _) | refine Ae ?_ (by assumption)));done))))).four))
      all_goals
        go_wp2_with fail
        go_end0
        exact ⟨rfl,Ac ⟨by rw [←HFIN.out];exact h7.out.1,HK.out.trans ((Keeps.more (show wc.grownBy _ none by (focus ((repeat (first | assumption | exact Al _ _ | exact Ai _ _ | exact Af _ _ _ | refine Ae ?_ (Af _ _ _) | refine Ae ?_ (Ai _ _) | refine Ae ?_ (by assumption)));done)))).trans h7.out.2)⟩⟩
end
section
open Go.RowKit Go.Maps
open Rat
set_option maxRecDepth 100000 in
theorem A1g (W0 w:World) (pb:Nat) (d:DevP) (An:Option Addr) (cn:Nat) (Av:Option Addr) (cv:Nat) (As:Option Addr) (cs:Nat) (Ag:Option Addr) (cg:Nat) (Am:Option Addr) (cm:Nat) (br:List Int) (k:Int) (L:List StampP) (h:PenS W0 w pb d An cn Av cv As cs Ag cg Am cm br k L) (hn:NodesOK d) (h2:4≤d.nodes.length) (hkd:d.kind=116) (hv:NumOK d.val.1 d.val.2) (hL:L.length≤1000) (hk0:0≤k) (hk1:k.toNat<br.length) (ij:I64 (br.getD k.toNat 0)) (A1:Option Addr) (n1 c1:Nat) (A2:Option Addr) (n2 c2:Nat) (s1 s2 me mode method t1 t2 seg:Int) :
  Calls Tryz.prog 95 #[.pointer (some ⟨pb,0,none⟩),.agg #[.slice A1 n1 c1,.slice A2 n2 c2,.int .i64 s1,.int .i64 s2,.int .i64 me],.agg #[.int .i64 mode,.int .i64 method,.int .i64 t1,.int .i64 t2],.int .i64 seg] w fun e w'=>e=.returned (.tuple #[])∧Hid (PenS W0 w' pb d An cn Av cv As cs Ag cg Am cm br k (L++(outL (d.at 0) (d.at 1) (br.getD k.toNat 0)++(put1 1 (d.at 2) (br.getD k.toNat 0) (-(numQ d.val.1 d.val.2))++(put1 1 (d.at 3) (br.getD k.toNat 0) (numQ d.val.1 d.val.2)++(Bw (d.at 0) (d.at 1) (br.getD k.toNat 0)++Gv (d.at 2) (d.at 3) (br.getD k.toNat 0) (numQ d.val.1 d.val.2))))))∧Keeps w w'):=by
 have tk1:=kne (show d.kind≠114 by omega)
 have tk2:=kne (show d.kind≠103 by omega)
 have tk3:=kne (show d.kind≠118 by omega)
 have tk4:=kne (show d.kind≠105 by omega)
 have tk5:=kne (show d.kind≠101 by omega)
 have tk6:=kne (show d.kind≠102 by omega)
 have tk7:=kne (show d.kind≠104 by omega)
 have tk:(d.kind==116)=true:=by rw [beq_iff_eq];exact hkd
 have HLQ:=Ac ((Ba hv).mono (show 3≤1099511627776 by omega))
 have HLN:=Ac ((Ba hv).mono (show 3≤1099511627776 by omega)).neg
 have hown:=fun w' L' (h':PenS W0 w' pb d An cn Av cv As cs Ag cg Am cm br k L')=>Da W0 w' pb d An cn Av cv As cs Ag cg Am cm br k L' h' hk0 hk1
 have hout:=fun w' L' (h':PenS W0 w' pb d An cn Av cv As cs Ag cg Am cm br k L') (hl:L'.length≤1000000)=>Dz W0 w' pb d An cn Av cv As cs Ag cg Am cm br k L' h' hn (by omega) hk0 hk1 ij hl
 have hacr:=fun w' L' (h':PenS W0 w' pb d An cn Av cv As cs Ag cg Am cm br k L') (hl:L'.length≤1000000)=>Cv W0 w' pb d An cn Av cv As cs Ag cg Am cm br k L' h' hn (by omega) hk0 hk1 ij hl
 have hles:=fun w' L' (h':PenS W0 w' pb d An cn Av cv As cs Ag cg Am cm br k L') yb q hq lq (hl:L'.length≤1000000)=>Nt W0 w' pb d An cn Av cv As cs Ag cg Am cm br k L' h' hn h2 hk0 hk1 ij yb q hq lq hl
 have HOWN:=Ac hown
 have HOUT:=Ac hout
 have HACR:=Ac hacr
 have HLES:=Ac hles
 have HJ:=Ac ij
 clear hkd hown hout hacr hles ij
 generalize br.getD k.toNat 0=J at *
 have l1:=Eb (d.at 0) (d.at 1) J
 have l2:=Cw (d.at 0) (d.at 1) J
 have l3:=Fs (L++outL (d.at 0) (d.at 1) J) 1 (d.at 2) J (-(numQ d.val.1 d.val.2))
 have l4:=Fs (L++outL (d.at 0) (d.at 1) J++put1 1 (d.at 2) J (-(numQ d.val.1 d.val.2))) 1 (d.at 3) J (numQ d.val.1 d.val.2)
 have l0:(L++outL (d.at 0) (d.at 1) J).length=L.length+(outL (d.at 0) (d.at 1) J).length:=List.length_append
 have hfin:L++outL (d.at 0) (d.at 1) J++put1 1 (d.at 2) J (-(numQ d.val.1 d.val.2))++put1 1 (d.at 3) J (numQ d.val.1 d.val.2)++Bw (d.at 0) (d.at 1) J++Gv (d.at 2) (d.at 3) J (numQ d.val.1 d.val.2)=L++(outL (d.at 0) (d.at 1) J++(put1 1 (d.at 2) J (-(numQ d.val.1 d.val.2))++(put1 1 (d.at 3) J (numQ d.val.1 d.val.2)++(Bw (d.at 0) (d.at 1) J++Gv (d.at 2) (d.at 3) J (numQ d.val.1 d.val.2))))):=by simp only [List.append_assoc]
 have HFIN:=Ac hfin
 clear hfin
 have gw:=Ae (Ae (Af w (.cells #[.slice A1 n1 c1,.slice A2 n2 c2,.int .i64 s1,.int .i64 s2,.int .i64 me] 27) none) (Af (w.alloc (.cells #[.slice A1 n1 c1,.slice A2 n2 c2,.int .i64 s1,.int .i64 s2,.int .i64 me] 27)) (.cells #[.int .i64 mode,.int .i64 method,.int .i64 t1,.int .i64 t2] 29) none)) (Af ((w.alloc (.cells #[.slice A1 n1 c1,.slice A2 n2 c2,.int .i64 s1,.int .i64 s2,.int .i64 me] 27)).alloc (.cells #[.int .i64 mode,.int .i64 method,.int .i64 t1,.int .i64 t2] 29)) (.cells #[.bool false,.slice none 0 0,.bool false,.slice none 0 0] 178) none)
 have HP:=Ac (h.more gw)
 have HN:=Ac hn
 have HK:=Ac (Keeps.more gw)
 have HI:=Ac (fun i=>hn.i64 i)
 have HV:=Ac hv
 have hvb:=hv.bounds
 obtain ⟨c0,c4,c5,c14⟩:=HP.out.cells
 have hNV:=Bd (((w.alloc (.cells #[.slice A1 n1 c1,.slice A2 n2 c2,.int .i64 s1,.int .i64 s2,.int .i64 me] 27)).alloc (.cells #[.int .i64 mode,.int .i64 method,.int .i64 t1,.int .i64 t2] 29)).alloc (.cells #[.bool false,.slice none 0 0,.bool false,.slice none 0 0] 178)) d.val.1 d.val.2 (by omega) (by omega) (by omega) (by omega)
 rw [show decide (NumOK d.val.1 d.val.2)=true from decide_eq_true hv] at hNV
 have HNV:=Ac hNV
 clear h hn hv hNV
 go_enter Tryz.func95,Tryz.ntmps95
 go_wp2_with fail
 generalize ((w.alloc (.cells #[.slice A1 n1 c1,.slice A2 n2 c2,.int .i64 s1,.int .i64 s2,.int .i64 me] 27)).alloc (.cells #[.int .i64 mode,.int .i64 method,.int .i64 t1,.int .i64 t2] 29)).alloc (.cells #[.bool false,.slice none 0 0,.bool false,.slice none 0 0] 178)=wa at *
 refine HNV.out.mono ?_
 rintro e w1 ⟨rfl,hg1⟩
 have HP:=Ac (HP.out.more hg1)
 have HK:=Ac (HK.out.trans (Keeps.more hg1))
 clear c0 c4 c5 c14 HNV gw hg1
 obtain ⟨c0,c4,c5,c14⟩:=HP.out.cells
 go_wp2_with fail
 refine (Bh w1 d.val.1 d.val.2 HV.out).mono ?_
 rintro e w2 ⟨xb,rfl,hx,hxb,hg2⟩
 have HP:=Ac (HP.out.more hg2)
 have HK:=Ac (HK.out.trans (Keeps.more hg2))
 have HX:=Ac hx
 clear c0 c4 c5 c14 hx hg2 hxb
 obtain ⟨c0,c4,c5,c14⟩:=HP.out.cells
 go_wp2_with fail
 refine (HOUT.out w2 _ HP.out (by omega)).mono ?_
 rintro e w3 ⟨rfl,h1⟩
 have HP:=Ac h1.out.1
 have HK:=Ac (HK.out.trans h1.out.2)
 have HX:=Ac (h1.out.2.pen HX.out)
 clear h1
 go_wp2_with fail
 clear c0 c4 c5 c14
 refine (Be W0 w3 pb d An cn Av cv As cs Ag cg Am cm br k _ HP.out HN.out 2 (by omega) (by omega)).mono ?_
 rintro e w' ⟨rfl,rfl⟩
 go_wp2_with fail
 refine (HOWN.out w3 _ HP.out).mono ?_
 rintro e w4 ⟨rfl,hgn⟩
 have HP:=Ac (HP.out.more hgn)
 have HK:=Ac (HK.out.trans (Keeps.more hgn))
 go_wp2_with fail
 have HX:=Ac (HX.out.more hgn)
 refine (C5 w4 xb (numQ d.val.1 d.val.2) HX.out HLQ.out).mono ?_
 rintro e w5 ⟨nb',rfl,hnb,hgn⟩
 have HP:=Ac (HP.out.more hgn)
 have HX:=Ac (HX.out.more hgn)
 have HK:=Ac (HK.out.trans (Keeps.more hgn))
 have HNB:=Ac hnb
 clear hnb hgn
 go_wp2_with fail
 refine (Cg W0 w5 pb d An cn Av cv As cs Ag cg Am cm br k _ HP.out (d.at 2) J (HI.out 2) HJ.out nb' (-(numQ d.val.1 d.val.2)) HNB.out HLN.out (by omega)).mono ?_
 rintro e w6 ⟨rfl,h1⟩
 have HP:=Ac h1.out.1
 have HK:=Ac (HK.out.trans h1.out.2)
 have HX:=Ac (h1.out.2.pen HX.out)
 clear h1
 go_wp2_with fail
 clear HNB
 refine (Be W0 w6 pb d An cn Av cv As cs Ag cg Am cm br k _ HP.out HN.out 3 (by omega) (by omega)).mono ?_
 rintro e w' ⟨rfl,rfl⟩
 go_wp2_with fail
 refine (HOWN.out w6 _ HP.out).mono ?_
 rintro e w7 ⟨rfl,hgn⟩
 have HP:=Ac (HP.out.more hgn)
 have HK:=Ac (HK.out.trans (Keeps.more hgn))
 go_wp2_with fail
 have HX:=Ac (HX.out.more hgn)
 clear hgn
 refine (Cg W0 w7 pb d An cn Av cv As cs Ag cg Am cm br k _ HP.out (d.at 3) J (HI.out 3) HJ.out xb (numQ d.val.1 d.val.2) HX.out HLQ.out (by omega)).mono ?_
 rintro e w8 ⟨rfl,h1⟩
 have HP:=Ac h1.out.1
 have HK:=Ac (HK.out.trans h1.out.2)
 have HX:=Ac (h1.out.2.pen HX.out)
 clear h1
 go_wp2_with fail
 refine (HACR.out w8 _ HP.out (by omega)).mono ?_
 rintro e w9 ⟨rfl,h1⟩
 have HP:=Ac h1.out.1
 have HK:=Ac (HK.out.trans h1.out.2)
 have HX:=Ac (h1.out.2.pen HX.out)
 clear h1
 go_wp2_with fail
 refine (HLES.out w9 _ HP.out xb _ HX.out HLQ.out (by rw [List.length_append];omega)).mono ?_
 rintro e w10 ⟨rfl,h1⟩
 go_wp2_with fail
 go_end0
 exact ⟨rfl,Ac ⟨by rw [←HFIN.out];exact h1.out.1,HK.out.trans h1.out.2⟩⟩
theorem PenS.refc {W0 w:World} {pb:Nat} {d:DevP} {An Av As Ag Am:Option Addr} {cn cv cs cg cm:Nat} {br:List Int} {k:Int} {L:List StampP} (h:PenS W0 w pb d An cn Av cv As cs Ag cg Am cm br k L) {j:Nat} (hj:j<br.length) :
  ∃ b o c,w.cell? ⟨pb,3,none⟩=some (.int .i64 d.ref)∧w.cell? ⟨pb,13,none⟩=some (.slice (some ⟨b,o,none⟩) br.length c)∧w.cell? ⟨b,o+j,none⟩=some (.int .i64 (br.getD j 0)):=by
 obtain ⟨Ab,nb,cb,lv,xs,h1,h2,h3,h4,h5⟩:=h.pen
 have c13:w.cell? ⟨pb,13,none⟩=some (.slice Ab nb cb):=h2.cell 13
 rcases (h1.more h.grown).open with ⟨b,o,c,e,l1,l2,hc⟩ | ⟨_,_,_,_,_,h0⟩
 ·injection e with e1 e2 e3
  subst e1 e2 e3
  rw [D5] at *
  exact ⟨b,o,_,h2.cell 3,c13,(hc j hj).trans (J5 br j hj)⟩
 ·have:=congrArg List.length h0;rw [D5] at this;exact absurd (show br.length=0 from this) (by omega)
set_option maxRecDepth 100000 in
theorem A1a (W0 w:World) (pb:Nat) (d:DevP) (An:Option Addr) (cn:Nat) (Av:Option Addr) (cv:Nat) (As:Option Addr) (cs:Nat) (Ag:Option Addr) (cg:Nat) (Am:Option Addr) (cm:Nat) (br:List Int) (k:Int) (L:List StampP) (h:PenS W0 w pb d An cn Av cv As cs Ag cg Am cm br k L) (hn:NodesOK d) (h2:2≤d.nodes.length) (hkd:d.kind=102) (hv:NumOK d.val.1 d.val.2) (hL:L.length≤1000) (j:Nat) (hj:d.ref=(j:Int)) (hk1:j<br.length) (hb:br.length≤1000) (ij:I64 (br.getD j 0)) (A1:Option Addr) (n1 c1:Nat) (A2:Option Addr) (n2 c2:Nat) (s1 s2 me mode method t1 t2 seg:Int) :
  Calls Tryz.prog 95 #[.pointer (some ⟨pb,0,none⟩),.agg #[.slice A1 n1 c1,.slice A2 n2 c2,.int .i64 s1,.int .i64 s2,.int .i64 me],.agg #[.int .i64 mode,.int .i64 method,.int .i64 t1,.int .i64 t2],.int .i64 seg] w fun e w'=>e=.returned (.tuple #[])∧Hid (PenS W0 w' pb d An cn Av cv As cs Ag cg Am cm br k (L++(put1 1 (d.at 0) (br.getD j 0) (numQ d.val.1 d.val.2)++put1 1 (d.at 1) (br.getD j 0) (-(numQ d.val.1 d.val.2))))∧Keeps w w'):=by
 have tk1:=kne (show d.kind≠114 by omega)
 have tk2:=kne (show d.kind≠103 by omega)
 have tk3:=kne (show d.kind≠118 by omega)
 have tk4:=kne (show d.kind≠105 by omega)
 have tk5:=kne (show d.kind≠101 by omega)
 have tk:(d.kind==102)=true:=by rw [beq_iff_eq];exact hkd
 have HLQ:=Ac ((Ba hv).mono (show 3≤1099511627776 by omega))
 have HLN:=Ac ((Ba hv).mono (show 3≤1099511627776 by omega)).neg
 have HJ:=Ac ij
 have HJR:=Ac hj
 clear hkd hj ij
 generalize hJe:br.getD j 0=J at *
 have HJE:=Ac hJe
 clear hJe
 have l1:=Fs L 1 (d.at 0) J (numQ d.val.1 d.val.2)
 have hfin:L++put1 1 (d.at 0) J (numQ d.val.1 d.val.2)++put1 1 (d.at 1) J (-(numQ d.val.1 d.val.2))=L++(put1 1 (d.at 0) J (numQ d.val.1 d.val.2)++put1 1 (d.at 1) J (-(numQ d.val.1 d.val.2))):=by simp only [List.append_assoc]
 have HFIN:=Ac hfin
 clear hfin
 have gw:=Ae (Ae (Af w (.cells #[.slice A1 n1 c1,.slice A2 n2 c2,.int .i64 s1,.int .i64 s2,.int .i64 me] 27) none) (Af (w.alloc (.cells #[.slice A1 n1 c1,.slice A2 n2 c2,.int .i64 s1,.int .i64 s2,.int .i64 me] 27)) (.cells #[.int .i64 mode,.int .i64 method,.int .i64 t1,.int .i64 t2] 29) none)) (Af ((w.alloc (.cells #[.slice A1 n1 c1,.slice A2 n2 c2,.int .i64 s1,.int .i64 s2,.int .i64 me] 27)).alloc (.cells #[.int .i64 mode,.int .i64 method,.int .i64 t1,.int .i64 t2] 29)) (.cells #[.bool false,.slice none 0 0,.bool false,.slice none 0 0] 178) none)
 have HP:=Ac (h.more gw)
 have HN:=Ac hn
 have HK:=Ac (Keeps.more gw)
 have HI:=Ac (fun i=>hn.i64 i)
 have HV:=Ac hv
 have hvb:=hv.bounds
 obtain ⟨c0,c4,c5,c14⟩:=HP.out.cells
 have hNV:=Bd (((w.alloc (.cells #[.slice A1 n1 c1,.slice A2 n2 c2,.int .i64 s1,.int .i64 s2,.int .i64 me] 27)).alloc (.cells #[.int .i64 mode,.int .i64 method,.int .i64 t1,.int .i64 t2] 29)).alloc (.cells #[.bool false,.slice none 0 0,.bool false,.slice none 0 0] 178)) d.val.1 d.val.2 (by omega) (by omega) (by omega) (by omega)
 rw [show decide (NumOK d.val.1 d.val.2)=true from decide_eq_true hv] at hNV
 have HNV:=Ac hNV
 clear h hn hv hNV
 go_enter Tryz.func95,Tryz.ntmps95
 go_wp2_with fail
 generalize ((w.alloc (.cells #[.slice A1 n1 c1,.slice A2 n2 c2,.int .i64 s1,.int .i64 s2,.int .i64 me] 27)).alloc (.cells #[.int .i64 mode,.int .i64 method,.int .i64 t1,.int .i64 t2] 29)).alloc (.cells #[.bool false,.slice none 0 0,.bool false,.slice none 0 0] 178)=wa at *
 refine HNV.out.mono ?_
 rintro e w1 ⟨rfl,hg1⟩
 have HP:=Ac (HP.out.more hg1)
 have HK:=Ac (HK.out.trans (Keeps.more hg1))
 clear c0 c4 c5 c14 HNV gw hg1
 obtain ⟨c0,c4,c5,c14⟩:=HP.out.cells
 go_wp2_with fail
 refine (Bh w1 d.val.1 d.val.2 HV.out).mono ?_
 rintro e w2 ⟨xb,rfl,hx,hxb,hg2⟩
 have HP:=Ac (HP.out.more hg2)
 have HK:=Ac (HK.out.trans (Keeps.more hg2))
 have HX:=Ac hx
 clear c0 c4 c5 c14 hx hg2 hxb
 obtain ⟨c0,c4,c5,c14⟩:=HP.out.cells
 obtain ⟨bb,ob,cb,c3,c13,cj⟩:=HP.out.refc hk1
 rw [HJR.out] at c3
 have e1:(j:Int)<(br.length:Int):=by omega
 have e0:(0:Int)≤(j:Int):=by omega
 rw [HJE.out] at cj
 go_wp2_with fail
 go_quiet (fail)
 have hgd:=Az w2 nq none
 have HP:=Ac (HP.out.more hgd)
 have HX:=Ac (HX.out.more hgd)
 have HK:=Ac (HK.out.trans (Keeps.more hgd))
 clear hgd c0 c4 c5 c14 c3 c13 cj
 generalize w2.drewN nq=wd at *
 go_wp2_with fail
 refine (Be W0 wd pb d An cn Av cv As cs Ag cg Am cm br k _ HP.out HN.out 0 (by omega) (by omega)).mono ?_
 rintro e w' ⟨rfl,rfl⟩
 go_wp2_with fail
 refine (Cg W0 wd pb d An cn Av cv As cs Ag cg Am cm br k _ HP.out (d.at 0) J (HI.out 0) HJ.out xb (numQ d.val.1 d.val.2) HX.out HLQ.out (by omega)).mono ?_
 rintro e w6 ⟨rfl,h1⟩
 have HP:=Ac h1.out.1
 have HK:=Ac (HK.out.trans h1.out.2)
 have HX:=Ac (h1.out.2.pen HX.out)
 clear h1
 go_wp2_with fail
 refine (Be W0 w6 pb d An cn Av cv As cs Ag cg Am cm br k _ HP.out HN.out 1 (by omega) (by omega)).mono ?_
 rintro e w' ⟨rfl,rfl⟩
 go_wp2_with fail
 refine (C5 w6 xb (numQ d.val.1 d.val.2) HX.out HLQ.out).mono ?_
 rintro e w7 ⟨nb',rfl,hnb,hgn⟩
 have HP:=Ac (HP.out.more hgn)
 have HK:=Ac (HK.out.trans (Keeps.more hgn))
 have HNB:=Ac hnb
 clear hnb hgn
 go_wp2_with fail
 refine (Cg W0 w7 pb d An cn Av cv As cs Ag cg Am cm br k _ HP.out (d.at 1) J (HI.out 1) HJ.out nb' (-(numQ d.val.1 d.val.2)) HNB.out HLN.out (by omega)).mono ?_
 rintro e w8 ⟨rfl,h1⟩
 go_wp2_with fail
 go_end0
 exact ⟨rfl,Ac ⟨by rw [←HFIN.out];exact h1.out.1,HK.out.trans h1.out.2⟩⟩
end
end Go.Proofs.YtmfmfpmkgmkgiaaGreatDoor
