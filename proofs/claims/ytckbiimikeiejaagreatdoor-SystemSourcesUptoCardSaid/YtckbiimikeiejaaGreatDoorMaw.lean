/- FlatE. -/
import Derived.Test.YtckbiimikeiejaaGreatDoorMal
import Derived.Deep.DeepCutAuto
set_option linter.unusedVariables false
set_option linter.unusedSimpArgs false
set_option maxHeartbeats 40000000
namespace Go.Proofs.YtckbiimikeiejaaGreatDoor
section
open Go.RowKit Go.Maps
theorem Bo {H:Type} {P:Program} (w:World) {ops:Array Oper} {rest:List Oper} {o:Oper} {a:Act} {Q:Exit→Act→World→Prop}
  (hg:o.guard=none) (m x v:Operand) (t:TypeId) (hop:o.op=Op.insert t m x v)
  (k e:TypeId) (K:Keyed P k) (ht:P.underlying t=some (.map k e)) (R:Value→Option (DataW H × List MemPlace)) (b n:Nat) (D:DataW H)
  (hm:a.eval m=.map (some b)) (hown:w.ownsMap P k R b n D) (hn:n<maxLen) (key val:Value) (kl:Lit) (hx:a.eval x=key) (hv:a.eval v=val) (hkey:keyOf P k key=some kl)
  (d:DataW H) (ps:List MemPlace) (hval:R val=some (d,ps))
  (hK:∀ w',w'.ownsMap P k R b (n+1) (D.put kl d)→w.grownBy w' (some b)→wpList P ops Q rest (a.put o.dst undef) w') :
  wpList P ops Q (o::rest) a w:=by
 refine wpList_plain hg fun K' hK'=>?_
 obtain ⟨w',hrun,r1,r2⟩:=hown.update K ht hn hkey hval
 unfold Oper.wp
 simp [execOp,hop,hm,hx,hv,hrun,Result.andThen]
 exact hK' _ _ (hK w' r1 r2)
theorem lawB:Keyed Tryz.prog 5:=int_keyed Tryz.underlying5
theorem A26 {k:Int} (h:0≤k∧k≤255):(Lit.int .u8 k).wf=true:=by
 have:∀ n:Fin 256,(Lit.int .u8 (n.val:Int)).wf=true:=by decide +kernel
 have:=this ⟨k.toNat,by omega⟩
 simpa only [show ((k.toNat:Nat):Int)=k by omega] using this
def Cl (k:Int):Int :=
 if k=99 then 2 else if k=100 then 2 else if k=101 then 4 else if k=102 then 2 else if k=103 then 4 else if k=104 then 2 else if k=105 then 2 else if k=108 then 2 else if k=114 then 2 else if k=115 then 4 else if k=116 then 4 else if k=118 then 2 else 0
def put2 (D:DataW Unit) (k n:Int):DataW Unit:=D.put (.int .u8 k) (.lit (.int .i64 n))
def Z9:DataW Unit :=
 put2 (put2 (put2 (put2 (put2 (put2 (put2 (put2 (put2 (put2 (put2 (put2 (.map []) 114 2) 99 2) 108 2) 118 2) 105 2) 101 4) 103 4) 102 2) 104 2) 116 4) 100 2) 115 4
theorem Wt:Z9=.map [(.int .u8 99,.lit (.int .i64 2)),(.int .u8 100,.lit (.int .i64 2)),(.int .u8 101,.lit (.int .i64 4)),(.int .u8 102,.lit (.int .i64 2)),(.int .u8 103,.lit (.int .i64 4)),(.int .u8 104,.lit (.int .i64 2)),(.int .u8 105,.lit (.int .i64 2)),(.int .u8 108,.lit (.int .i64 2)),(.int .u8 114,.lit (.int .i64 2)),(.int .u8 115,.lit (.int .i64 4)),(.int .u8 116,.lit (.int .i64 4)),(.int .u8 118,.lit (.int .i64 2))]:=by rfl
theorem Ws (k c:Int) (h:Z9.atKey (.int .u8 k) (.lit (.int .i64 0))=.lit (.int .i64 c)):c=Cl k:=by
 rw [Wt] at h
 unfold Cl
 simp only [DataW.atKey,List.find?,Lit.sameKey,true_and] at h
 by_cases h1:k=99;· subst h1;simpa using h.symm
 by_cases h2:k=100;· subst h2;simpa using h.symm
 by_cases h3:k=101;· subst h3;simpa using h.symm
 by_cases h4:k=102;· subst h4;simpa using h.symm
 by_cases h5:k=103;· subst h5;simpa using h.symm
 by_cases h6:k=104;· subst h6;simpa using h.symm
 by_cases h7:k=105;· subst h7;simpa using h.symm
 by_cases h8:k=108;· subst h8;simpa using h.symm
 by_cases h9:k=114;· subst h9;simpa using h.symm
 by_cases h10:k=115;· subst h10;simpa using h.symm
 by_cases h11:k=116;· subst h11;simpa using h.symm
 by_cases h12:k=118;· subst h12;simpa using h.symm
 simp only [h1,h2,h3,h4,h5,h6,h7,h8,h9,h10,h11,h12,Ne.symm,if_false]
 simp only [show ¬ (99:Int)=k by omega,show ¬ (100:Int)=k by omega,show ¬ (101:Int)=k by omega,show ¬ (102:Int)=k by omega,show ¬ (103:Int)=k by omega,show ¬ (104:Int)=k by omega,show ¬ (105:Int)=k by omega,show ¬ (108:Int)=k by omega,show ¬ (114:Int)=k by omega,show ¬ (115:Int)=k by omega,show ¬ (116:Int)=k by omega,show ¬ (118:Int)=k by omega,decide_false] at h
 simpa using h.symm
def valZ (p:Int × Int):Bool:=decide (p.1=0)&&decide (p.2=0)
def G4 (ds:List DevP) (d:DevP):Bool :=
 if d.kind=118∨d.kind=105 then decide (Di d.wkind d.wvals d.wsteps)&&valZ d.val&&Ci d.mname d.mkind d.mg.length d.mv.length&&decide (d.ref=0)
 else if d.kind=100∨d.kind=115 then Cj d.wkind d.wvals.length d.wsteps.length&&valZ d.val&&Bk d.mname.data.toList d.mkind d.mg d.mv&&decide (d.mkind=d.kind)&&decide (d.ref=0)
 else (if d.kind=102∨d.kind=104 then decide (0≤d.ref)&&decide (d.ref<ds.length)&&decide ((ds.getD d.ref.toNat dev0).kind=118) else decide (d.ref=0)) &&
  Bu d.val&&(decide (d.val.1≠0)||!(decide (d.kind=114)||decide (d.kind=99)||decide (d.kind=108)))&&Cj d.wkind d.wvals.length d.wsteps.length&&Ci d.mname d.mkind d.mg.length d.mv.length
def Gx (nn:Nat) (l:List Int):Bool:=decide (∀ i,i<l.length→0≤l.getD i 0∧l.getD i 0<(nn:Int))
def devB (nn:Nat) (ds:List DevP) (d:DevP):Bool :=
 decide (Cl d.kind≠0)&&decide ((d.nodes.length:Int)=Cl d.kind)&&D3 d.name&&Gx nn d.nodes&&G4 ds d
theorem DevBox.other {w w':World} {b r:Nat} {d:DevP} {An Av As Ag Am:Option Addr} {cn cv cs cg cm:Nat} (h:DevBox w b d An cn Av cv As cs Ag cg Am cm) (hg:w.grownBy w' (some r)) (hne:b≠r):DevBox w' b d An cn Av cv As cs Ag cg Am cm :=
 ⟨Aj hg h.c0 (by simpa using hne),Aj hg h.c1 (by simpa using hne),Aj hg h.c2 (by simpa using hne),Aj hg h.c3 (by simpa using hne),Aj hg h.c4 (by simpa using hne),Aj hg h.c5 (by simpa using hne),Aj hg h.c6 (by simpa using hne),Aj hg h.c7 (by simpa using hne),Aj hg h.c8 (by simpa using hne),Aj hg h.c9 (by simpa using hne),Aj hg h.c10 (by simpa using hne),Aj hg h.c11 (by simpa using hne),Aj hg h.c12 (by simpa using hne)⟩
theorem Sn {nn:Nat} {l:List Int} {k:Nat} (hk:k<l.length) (h:¬ (0≤l.getD k 0∧l.getD k 0<(nn:Int))):Gx nn l=false:=by
 unfold Gx;rw [decide_eq_false_iff_not];exact fun hh=>h (hh k hk)
set_option maxRecDepth 100000 in
theorem Sw (w:World) (A1:Option Addr) (c1:Nat) (A2:Option Addr) (c2:Nat) (s1 s2 me:Int) (nodes:List ByteArray) (ds:List DevP) (d:DevP) (An:Option Addr) (cn:Nat) (Av:Option Addr) (cv:Nat) (As:Option Addr) (cs:Nat) (Ag:Option Addr) (cg:Nat) (Am:Option Addr) (cm:Nat)
    (hl1:nodes.length≤1099511627776) (hl2:ds.length≤1099511627776) (hd:DevRow w (.slice A2 ds.length c2) ds) (hat:DevAt w d An cn Av cv As cs Ag cg Am cm) (hG:GlobOK w) :
    Calls Tryz.prog 134 #[.agg #[.slice A1 nodes.length c1,.slice A2 ds.length c2,.int .i64 s1,.int .i64 s2,.int .i64 me],.agg #[.int .u8 d.kind,.string d.name,.slice An d.nodes.length cn,.int .i64 d.ref,.int .i64 d.val.1,.int .i64 d.val.2,.int .i64 d.wkind,.slice Av d.wvals.length cv,.slice As d.wsteps.length cs,.string d.mname,.int .u8 d.mkind,.slice Ag d.mg.length cg,.slice Am d.mv.length cm]] w fun e w'=>e=.returned (.bool (devB nodes.length ds d))∧w.grownBy w' none:=by
  have hmm:=@run_makeMap Tryz.prog
  have g1:=Af w (.cells #[.slice A1 nodes.length c1,.slice A2 ds.length c2,.int .i64 s1,.int .i64 s2,.int .i64 me] 27) none
  have g2:=Af (w.alloc (.cells #[.slice A1 nodes.length c1,.slice A2 ds.length c2,.int .i64 s1,.int .i64 s2,.int .i64 me] 27)) (.cells #[.int .u8 d.kind,.string d.name,.slice An d.nodes.length cn,.int .i64 d.ref,.int .i64 d.val.1,.int .i64 d.val.2,.int .i64 d.wkind,.slice Av d.wvals.length cv,.slice As d.wsteps.length cs,.string d.mname,.int .u8 d.mkind,.slice Ag d.mg.length cg,.slice Am d.mv.length cm] 89) none
  have hB:=(Blk.new w #[.slice A1 nodes.length c1,.slice A2 ds.length c2,.int .i64 s1,.int .i64 s2,.int .i64 me] 27).more g2
  have hD:=DevBox.of (Blk.new (w.alloc (.cells #[.slice A1 nodes.length c1,.slice A2 ds.length c2,.int .i64 s1,.int .i64 s2,.int .i64 me] 27)) #[.int .u8 d.kind,.string d.name,.slice An d.nodes.length cn,.int .i64 d.ref,.int .i64 d.val.1,.int .i64 d.val.2,.int .i64 d.wkind,.slice Av d.wvals.length cv,.slice As d.wsteps.length cs,.string d.mname,.int .u8 d.mkind,.slice Ag d.mg.length cg,.slice Am d.mv.length cm] 89)
  rw [World.size_alloc] at hD
  have gw:=Ae g1 g2
  obtain ⟨p0,p1,p2,p3,p4,p5,p6,p7,p8,p9,p10,p11,p12⟩:=hD
  have hmade:=World.ownsMap_made (H:=Unit) ((w.alloc (.cells #[.slice A1 nodes.length c1,.slice A2 ds.length c2,.int .i64 s1,.int .i64 s2,.int .i64 me] 27)).alloc (.cells #[.int .u8 d.kind,.string d.name,.slice An d.nodes.length cn,.int .i64 d.ref,.int .i64 d.val.1,.int .i64 d.val.2,.int .i64 d.wkind,.slice Av d.wvals.length cv,.slice As d.wsteps.length cs,.string d.mname,.int .u8 d.mkind,.slice Ag d.mg.length cg,.slice Am d.mv.length cm] 89)) Tryz.prog 5 (plainElem Tryz.prog 3)
  rw [World.size_alloc,World.size_alloc] at hmade
  have hkk:keyOf Tryz.prog 5 (.int .u8 d.kind)=some (.int .u8 d.kind):=keyOf_int_mk Tryz.underlying5 (A26 hat.kind)
  have gax:=C0 (row:=some (w.heap.size+1+1)) (Af ((w.alloc (.cells #[.slice A1 nodes.length c1,.slice A2 ds.length c2,.int .i64 s1,.int .i64 s2,.int .i64 me] 27)).alloc (.cells #[.int .u8 d.kind,.string d.name,.slice An d.nodes.length cn,.int .i64 d.ref,.int .i64 d.val.1,.int .i64 d.val.2,.int .i64 d.wkind,.slice Av d.wvals.length cv,.slice As d.wsteps.length cs,.string d.mname,.int .u8 d.mkind,.slice Ag d.mg.length cg,.slice Am d.mv.length cm] 89)) (.map #[] 0) none)
  have HDB:=Ac (DevBox.mk p0 p1 p2 p3 p4 p5 p6 p7 p8 p9 p10 p11 p12)
  have p0:=Aj gax p0 (by simp)
  clear p1 p2 p3 p4 p5 p6 p7 p8 p9 p10 p11 p12
  obtain ⟨D,hD⟩:∃ D,devB nodes.length ds d=D:=⟨_,rfl⟩
  rw [hD]
  have HD:=Ac hD
  clear hD
  go_enter Tryz.func134,Tryz.ntmps134
  go_upto_region 1 with (fail)
  go_cut [5] (fun c wx=>c=.int .i64 (Cl d.kind)∧Hid (((w.alloc (.cells #[.slice A1 nodes.length c1,.slice A2 ds.length c2,.int .i64 s1,.int .i64 s2,.int .i64 me] 27)).alloc (.cells #[.int .u8 d.kind,.string d.name,.slice An d.nodes.length cn,.int .i64 d.ref,.int .i64 d.val.1,.int .i64 d.val.2,.int .i64 d.wkind,.slice Av d.wvals.length cv,.slice As d.wsteps.length cs,.string d.mname,.int .u8 d.mkind,.slice Ag d.mg.length cg,.slice Am d.mv.length cm] 89)).grownBy wx (some (w.heap.size+1+1))))
  case first =>
   as_aux_lemma =>
    go_wp2_with (first
      | (refine Bo _ rfl (.tmp 9) (.const (.int .u8 114)) (.const (.int .i64 2)) 278 rfl 5 3 lawB Tryz.underlying278 (plainElem Tryz.prog 3) (w.heap.size+1+1) _ _ (by rfl) (by assumption) (by unfold maxLen;omega) (.int .u8 114) (.int .i64 2) (.int .u8 114) (by rfl) (by rfl) (keyOf_int_mk Tryz.underlying5 (by decide)) (.lit (.int .i64 2)) [] (plainElem_int Tryz.underlying3 (by decide)) ?_;intro w1 hown1 hgrow1;have p0:=Aj hgrow1 p0 (by simp);have gax:=Ae gax hgrow1)
      | (refine Bo _ rfl (.tmp 9) (.const (.int .u8 99)) (.const (.int .i64 2)) 278 rfl 5 3 lawB Tryz.underlying278 (plainElem Tryz.prog 3) (w.heap.size+1+1) _ _ (by rfl) (by assumption) (by unfold maxLen;omega) (.int .u8 99) (.int .i64 2) (.int .u8 99) (by rfl) (by rfl) (keyOf_int_mk Tryz.underlying5 (by decide)) (.lit (.int .i64 2)) [] (plainElem_int Tryz.underlying3 (by decide)) ?_;intro w1 hown1 hgrow1;have p0:=Aj hgrow1 p0 (by simp);have gax:=Ae gax hgrow1)
      | (refine Bo _ rfl (.tmp 9) (.const (.int .u8 108)) (.const (.int .i64 2)) 278 rfl 5 3 lawB Tryz.underlying278 (plainElem Tryz.prog 3) (w.heap.size+1+1) _ _ (by rfl) (by assumption) (by unfold maxLen;omega) (.int .u8 108) (.int .i64 2) (.int .u8 108) (by rfl) (by rfl) (keyOf_int_mk Tryz.underlying5 (by decide)) (.lit (.int .i64 2)) [] (plainElem_int Tryz.underlying3 (by decide)) ?_;intro w1 hown1 hgrow1;have p0:=Aj hgrow1 p0 (by simp);have gax:=Ae gax hgrow1)
      | (refine Bo _ rfl (.tmp 9) (.const (.int .u8 118)) (.const (.int .i64 2)) 278 rfl 5 3 lawB Tryz.underlying278 (plainElem Tryz.prog 3) (w.heap.size+1+1) _ _ (by rfl) (by assumption) (by unfold maxLen;omega) (.int .u8 118) (.int .i64 2) (.int .u8 118) (by rfl) (by rfl) (keyOf_int_mk Tryz.underlying5 (by decide)) (.lit (.int .i64 2)) [] (plainElem_int Tryz.underlying3 (by decide)) ?_;intro w1 hown1 hgrow1;have p0:=Aj hgrow1 p0 (by simp);have gax:=Ae gax hgrow1)
      | (refine Bo _ rfl (.tmp 9) (.const (.int .u8 105)) (.const (.int .i64 2)) 278 rfl 5 3 lawB Tryz.underlying278 (plainElem Tryz.prog 3) (w.heap.size+1+1) _ _ (by rfl) (by assumption) (by unfold maxLen;omega) (.int .u8 105) (.int .i64 2) (.int .u8 105) (by rfl) (by rfl) (keyOf_int_mk Tryz.underlying5 (by decide)) (.lit (.int .i64 2)) [] (plainElem_int Tryz.underlying3 (by decide)) ?_;intro w1 hown1 hgrow1;have p0:=Aj hgrow1 p0 (by simp);have gax:=Ae gax hgrow1)
      | (refine Bo _ rfl (.tmp 9) (.const (.int .u8 101)) (.const (.int .i64 4)) 278 rfl 5 3 lawB Tryz.underlying278 (plainElem Tryz.prog 3) (w.heap.size+1+1) _ _ (by rfl) (by assumption) (by unfold maxLen;omega) (.int .u8 101) (.int .i64 4) (.int .u8 101) (by rfl) (by rfl) (keyOf_int_mk Tryz.underlying5 (by decide)) (.lit (.int .i64 4)) [] (plainElem_int Tryz.underlying3 (by decide)) ?_;intro w1 hown1 hgrow1;have p0:=Aj hgrow1 p0 (by simp);have gax:=Ae gax hgrow1)
      | (refine Bo _ rfl (.tmp 9) (.const (.int .u8 103)) (.const (.int .i64 4)) 278 rfl 5 3 lawB Tryz.underlying278 (plainElem Tryz.prog 3) (w.heap.size+1+1) _ _ (by rfl) (by assumption) (by unfold maxLen;omega) (.int .u8 103) (.int .i64 4) (.int .u8 103) (by rfl) (by rfl) (keyOf_int_mk Tryz.underlying5 (by decide)) (.lit (.int .i64 4)) [] (plainElem_int Tryz.underlying3 (by decide)) ?_;intro w1 hown1 hgrow1;have p0:=Aj hgrow1 p0 (by simp);have gax:=Ae gax hgrow1)
      | (refine Bo _ rfl (.tmp 9) (.const (.int .u8 102)) (.const (.int .i64 2)) 278 rfl 5 3 lawB Tryz.underlying278 (plainElem Tryz.prog 3) (w.heap.size+1+1) _ _ (by rfl) (by assumption) (by unfold maxLen;omega) (.int .u8 102) (.int .i64 2) (.int .u8 102) (by rfl) (by rfl) (keyOf_int_mk Tryz.underlying5 (by decide)) (.lit (.int .i64 2)) [] (plainElem_int Tryz.underlying3 (by decide)) ?_;intro w1 hown1 hgrow1;have p0:=Aj hgrow1 p0 (by simp);have gax:=Ae gax hgrow1)
      | (refine Bo _ rfl (.tmp 9) (.const (.int .u8 104)) (.const (.int .i64 2)) 278 rfl 5 3 lawB Tryz.underlying278 (plainElem Tryz.prog 3) (w.heap.size+1+1) _ _ (by rfl) (by assumption) (by unfold maxLen;omega) (.int .u8 104) (.int .i64 2) (.int .u8 104) (by rfl) (by rfl) (keyOf_int_mk Tryz.underlying5 (by decide)) (.lit (.int .i64 2)) [] (plainElem_int Tryz.underlying3 (by decide)) ?_;intro w1 hown1 hgrow1;have p0:=Aj hgrow1 p0 (by simp);have gax:=Ae gax hgrow1)
      | (refine Bo _ rfl (.tmp 9) (.const (.int .u8 116)) (.const (.int .i64 4)) 278 rfl 5 3 lawB Tryz.underlying278 (plainElem Tryz.prog 3) (w.heap.size+1+1) _ _ (by rfl) (by assumption) (by unfold maxLen;omega) (.int .u8 116) (.int .i64 4) (.int .u8 116) (by rfl) (by rfl) (keyOf_int_mk Tryz.underlying5 (by decide)) (.lit (.int .i64 4)) [] (plainElem_int Tryz.underlying3 (by decide)) ?_;intro w1 hown1 hgrow1;have p0:=Aj hgrow1 p0 (by simp);have gax:=Ae gax hgrow1)
      | (refine Bo _ rfl (.tmp 9) (.const (.int .u8 100)) (.const (.int .i64 2)) 278 rfl 5 3 lawB Tryz.underlying278 (plainElem Tryz.prog 3) (w.heap.size+1+1) _ _ (by rfl) (by assumption) (by unfold maxLen;omega) (.int .u8 100) (.int .i64 2) (.int .u8 100) (by rfl) (by rfl) (keyOf_int_mk Tryz.underlying5 (by decide)) (.lit (.int .i64 2)) [] (plainElem_int Tryz.underlying3 (by decide)) ?_;intro w1 hown1 hgrow1;have p0:=Aj hgrow1 p0 (by simp);have gax:=Ae gax hgrow1)
      | (refine Bo _ rfl (.tmp 9) (.const (.int .u8 115)) (.const (.int .i64 4)) 278 rfl 5 3 lawB Tryz.underlying278 (plainElem Tryz.prog 3) (w.heap.size+1+1) _ _ (by rfl) (by assumption) (by unfold maxLen;omega) (.int .u8 115) (.int .i64 4) (.int .u8 115) (by rfl) (by rfl) (keyOf_int_mk Tryz.underlying5 (by decide)) (.lit (.int .i64 4)) [] (plainElem_int Tryz.underlying3 (by decide)) ?_;intro w1 hown1 hgrow1;have p0:=Aj hgrow1 p0 (by simp);have gax:=Ae gax hgrow1)
      | (at_lookup;go_loud (refine wpList_lookup_own_int _ rfl _ _ 278 rfl 5 3 .i64 lawB Tryz.underlying278 Tryz.underlying3 (A1q _) (w.heap.size+1+1) _ _ rfl (by assumption) _ _ rfl hkk ?_;intro c hatc hwc))
      | go_in)
    go_meet
    exact ⟨by rw [Ws _ _ hatc],Ac gax⟩
  case rest =>
    obtain ⟨rfl,HG⟩:=hcut
    have gN:=Aw (row:=none) gw HG.out (by omega)
    have HB:=HDB.out.other HG.out (by omega)
    have m0:wc.cell? ⟨w.heap.size,0,none⟩=some (.slice A1 nodes.length c1):=Aj HG.out (hB.cell 0) (by simp;omega)
    have m1:wc.cell? ⟨w.heap.size,1,none⟩=some (.slice A2 ds.length c2):=Aj HG.out (hB.cell 1) (by simp;omega)
    have hat':=hat.more gN
    have hd':=hd.more gN
    have hG':=hG.more gN
    have HW0:=Ac gN
    clear hB HDB hat hd hG gw g1 g2 hmm hmade hkk gax p0 HG
    generalize w.heap.size=s at *
    generalize hnn:Cl d.kind=nn at *
    have HNN:=Ac hnn
    clear hnn
    have HBX:=Ac HB
    obtain ⟨p0,p1,p2,p3,p4,p5,p6,p7,p8,p9,p10,p11,p12⟩:=HB
    by_cases hn0:nn=0
    · have t0:(nn==0)=true:=by rw [beq_iff_eq];exact hn0
      have HN0:=Ac hn0
      clear hn0
      go_wp2_with fail
      go_ret
      exact ⟨Ao (by rw [←HD.out];simp [devB,HNN.out,HN0.out]),HW0.out⟩
    have t0:(nn==0)=false:=by rw [beq_eq_false_iff_ne];exact hn0
    by_cases hnl:(d.nodes.length:Int)=nn
    · have t1:((d.nodes.length:Int)==nn)=true:=by rw [beq_iff_eq];exact hnl
      have HN0:=Ac hn0
      have HNL:=Ac hnl
      clear hn0 hnl
      go_wp2_with fail
      refine (Mh wc d.name hG' hat'.name).mono ?_
      rintro e w1 ⟨rfl,hg1⟩
      cases hlg:D3 d.name with
      | false =>
        have HLG:=Ac hlg
        clear hlg
        go_wp2_with fail
        go_ret
        exact ⟨Ao (by rw [←HD.out];simp [devB,HLG.out]),Ae HW0.out hg1⟩
      | true =>
        have HLG:=Ac hlg
        clear hlg
        have HDD:Hid (D=(Gx nodes.length d.nodes&&G4 ds d)):=Ac (by rw [←HD.out];simp [devB,HLG.out,HNN.out,HN0.out,HNL.out])
        have HB1:=HBX.out.more hg1
        have HBX1:=Ac HB1
        have m01:=Aj hg1 m0 (by simp)
        have m11:=Aj hg1 m1 (by simp)
        have hat1:=hat'.more hg1
        have hd1:=hd'.more hg1
        have gN1:=Ae HW0.out hg1
        have HAT:=Ac hat1
        have hln:d.nodes.length≤9223372036854775807:=by obtain ⟨_,_,_,q1,q2⟩:=hat1.nodes.ctor;omega
        clear p0 p1 p2 p3 p4 p5 p6 p7 p8 p9 p10 p11 p12 m0 m1 hat' hd' hG' HBX HW0 hg1 t0 t1 HNL HN0 HD
        obtain ⟨p0,p1,p2,p3,p4,p5,p6,p7,p8,p9,p10,p11,p12⟩:=HB1
        go_wp2_with fail
        go_loopw [32] (fun i wr=>∃ k:Nat,k≤d.nodes.length∧i=.int .i64 k∧wr=w1∧Hid (∀ t,t<k→0≤d.nodes.getD t 0∧d.nodes.getD t 0<(nodes.length:Int))) (fun i _=>(d.nodes.length-intOf i).toNat)
        case atStart=>exact ⟨0,by omega,rfl,rfl,Ac (fun t ht=>by omega)⟩
        case round =>
          obtain ⟨k,hk,rfl,rfl,hb⟩:=hrel
          by_cases hlt:k<d.nodes.length
          · obtain ⟨b,o,rfl,⟨u1,u2⟩,q0⟩:=HAT.out.nodes.at hlt
            generalize hp:d.nodes.getD k 0=x at *
            have HP:=Ac hp
            clear hp
            by_cases hx:0≤x∧x<(nodes.length:Int)
            · have HX:=Ac hx
              obtain ⟨x1,x2⟩:=hx
              have d1:¬ x<0:=by omega
              have d2:¬ (nodes.length:Int)≤x:=by omega
              go_wp2_with fail
              exact ⟨⟨k+1,by omega,Bl (by omega),trivial,Ac (fun t ht=>by
                by_cases htk:t=k
                · subst htk;rw [HP.out];exact HX.out
                · exact hb.out t (by omega))⟩,by simp [intOf];omega⟩
            · have HF:=Ac (Sn (nn:=nodes.length) hlt (by rw [HP.out];exact hx))
              have hx':x<0∨(nodes.length:Int)≤x:=by omega
              clear hx
              rcases hx' with hx' | hx'
              · go_wp2_with fail
                go_ret
                exact ⟨Ao (by rw [HDD.out,HF.out];rfl),gN1⟩
              · have hx0:¬ x<0:=by omega
                go_wp2_with fail
                go_ret
                exact ⟨Ao (by rw [HDD.out,HF.out];rfl),gN1⟩
          · obtain rfl:k=d.nodes.length:=by omega
            have HK:Hid (D=G4 ds d):=Ac (by
              rw [HDD.out]
              have:Gx nodes.length d.nodes=true:=by unfold Gx;rw [decide_eq_true_iff];exact hb.out
              rw [this];simp)
            clear hb hk hlt HDD HLG HNN
            have HG0:=Ac gN1
            have HMM:=Ac (And.intro m01 m11)
            clear gN1
            have hkd:=hat1.kind
            by_cases hk1:d.kind=118∨d.kind=105
            · have hE:D=(decide (Di d.wkind d.wvals d.wsteps)&&valZ d.val&&Ci d.mname d.mkind d.mg.length d.mv.length&&decide (d.ref=0)):=by rw [HK.out];unfold G4;rw [if_pos hk1]
              have HE:=Ac hE
              have hkk:(d.kind=118)∨(d.kind=105∧(d.kind==118)=false):=by
                rcases hk1 with h | h
                · exact .inl h
                · exact .inr ⟨h,by rw [beq_eq_false_iff_ne];omega⟩
              clear hE hk1 HK
              rcases hkk with hkk | ⟨hkk,t118⟩
              · have t118:(d.kind==118)=true:=by rw [beq_iff_eq];exact hkk
                clear hkk hkd
                as_aux_lemma =>
                 obtain ⟨W,hW⟩:∃ W,decide (Di d.wkind d.wvals d.wsteps)=W:=⟨_,rfl⟩
                 have hC:=Ie wr d.wkind _ _ d.wvals d.wsteps HAT.out.vals HAT.out.steps
                 rw [hW] at hC
                 have HW:=Ac hW
                 have HC:=Ac hC
                 clear hW hC
                 go_wp2_with fail
                 refine HC.out.mono ?_
                 rintro e w2 ⟨rfl,hg2⟩
                 cases W with
                 | false =>
                   go_wp2_with fail
                   go_ret
                   exact ⟨Ao (by rw [HE.out,HW.out];rfl),Ae HG0.out hg2⟩
                 | true =>
                   have HB2:=HBX1.out.more hg2
                   clear p0 p1 p2 p3 p4 p5 p6 p7 p8 p9 p10 p11 p12
                   obtain ⟨p0,p1,p2,p3,p4,p5,p6,p7,p8,p9,p10,p11,p12⟩:=HB2
                   have hsm:=HAT.out.small
                   obtain ⟨z1,z2,z3,z4,z5⟩:=hsm
                   go_wp2_with fail
                   all_goals first
                     | (go_ret;exact ⟨Ao (by rw [HE.out];simp [valZ, *]),Ae HG0.out hg2⟩)
                     | (have HZ:Hid (valZ d.val=true):=Ac (by simp [valZ, *])
                        refine (Dg w2 d.mname d.mkind Ag Am d.mg.length d.mv.length cg cm (by omega) (by omega)).mono ?_
                        rintro e w3 ⟨rfl,hg3⟩
                        generalize Ci d.mname d.mkind d.mg.length d.mv.length=M at *
                        cases M with
                        | false =>
                          go_wp2_with fail
                          go_ret
                          exact ⟨Ao (by rw [HE.out];simp),Ae HG0.out (Ae hg2 hg3)⟩
                        | true =>
                          obtain ⟨q0,q1,q2,q3,q4,q5,q6,q7,q8,q9,q10,q11,q12⟩:=HBX1.out.more (Ae hg2 hg3)
                          go_wp2_with fail
                          go_ret
                          exact ⟨Ao (by rw [HE.out,HW.out,HZ.out,Bool.eq_iff_iff];simp),Ae HG0.out (Ae hg2 hg3)⟩)
              · have t105:(d.kind==105)=true:=by rw [beq_iff_eq];exact hkk
                clear hkk hkd
                as_aux_lemma =>
                 obtain ⟨W,hW⟩:∃ W,decide (Di d.wkind d.wvals d.wsteps)=W:=⟨_,rfl⟩
                 have hC:=Ie wr d.wkind _ _ d.wvals d.wsteps HAT.out.vals HAT.out.steps
                 rw [hW] at hC
                 have HW:=Ac hW
                 have HC:=Ac hC
                 clear hW hC
                 go_wp2_with fail
                 refine HC.out.mono ?_
                 rintro e w2 ⟨rfl,hg2⟩
                 cases W with
                 | false =>
                   go_wp2_with fail
                   go_ret
                   exact ⟨Ao (by rw [HE.out,HW.out];rfl),Ae HG0.out hg2⟩
                 | true =>
                   have HB2:=HBX1.out.more hg2
                   clear p0 p1 p2 p3 p4 p5 p6 p7 p8 p9 p10 p11 p12
                   obtain ⟨p0,p1,p2,p3,p4,p5,p6,p7,p8,p9,p10,p11,p12⟩:=HB2
                   have hsm:=HAT.out.small
                   obtain ⟨z1,z2,z3,z4,z5⟩:=hsm
                   go_wp2_with fail
                   all_goals first
                     | (go_ret;exact ⟨Ao (by rw [HE.out];simp [valZ, *]),Ae HG0.out hg2⟩)
                     | (have HZ:Hid (valZ d.val=true):=Ac (by simp [valZ, *])
                        refine (Dg w2 d.mname d.mkind Ag Am d.mg.length d.mv.length cg cm (by omega) (by omega)).mono ?_
                        rintro e w3 ⟨rfl,hg3⟩
                        generalize Ci d.mname d.mkind d.mg.length d.mv.length=M at *
                        cases M with
                        | false =>
                          go_wp2_with fail
                          go_ret
                          exact ⟨Ao (by rw [HE.out];simp),Ae HG0.out (Ae hg2 hg3)⟩
                        | true =>
                          obtain ⟨q0,q1,q2,q3,q4,q5,q6,q7,q8,q9,q10,q11,q12⟩:=HBX1.out.more (Ae hg2 hg3)
                          go_wp2_with fail
                          go_ret
                          exact ⟨Ao (by rw [HE.out,HW.out,HZ.out,Bool.eq_iff_iff];simp),Ae HG0.out (Ae hg2 hg3)⟩)
            have t118:(d.kind==118)=false:=by rw [beq_eq_false_iff_ne];omega
            have t105:(d.kind==105)=false:=by rw [beq_eq_false_iff_ne];omega
            by_cases hk2:d.kind=100∨d.kind=115
            · have hE:D=(Cj d.wkind d.wvals.length d.wsteps.length&&valZ d.val&&Bk d.mname.data.toList d.mkind d.mg d.mv&&decide (d.mkind=d.kind)&&decide (d.ref=0)):=by rw [HK.out];unfold G4;rw [if_neg hk1,if_pos hk2]
              have HE:=Ac hE
              have hkk:(d.kind=100)∨(d.kind=115∧(d.kind==100)=false):=by
                rcases hk2 with h | h
                · exact .inl h
                · exact .inr ⟨h,by rw [beq_eq_false_iff_ne];omega⟩
              clear hE hk1 hk2 HK
              rcases hkk with hkk | ⟨hkk,t100⟩
              · have t100:(d.kind==100)=true:=by rw [beq_iff_eq];exact hkk
                clear hkk hkd
                as_aux_lemma =>
                 obtain ⟨z1,z2,z3,z4,z5⟩:=HAT.out.small
                 obtain ⟨W,hW⟩:∃ W,Cj d.wkind d.wvals.length d.wsteps.length=W:=⟨_,rfl⟩
                 have hC:=Dr wr d.wkind Av As d.wvals.length d.wsteps.length cv cs (by omega) (by omega)
                 rw [hW] at hC
                 have HW:=Ac hW
                 have HC:=Ac hC
                 clear hW hC
                 go_wp2_with fail
                 refine HC.out.mono ?_
                 rintro e w2 ⟨rfl,hg2⟩
                 cases W with
                 | false =>
                   go_wp2_with fail
                   go_ret
                   exact ⟨Ao (by rw [HE.out,HW.out];rfl),Ae HG0.out hg2⟩
                 | true =>
                   have HB2:=HBX1.out.more hg2
                   clear p0 p1 p2 p3 p4 p5 p6 p7 p8 p9 p10 p11 p12
                   obtain ⟨p0,p1,p2,p3,p4,p5,p6,p7,p8,p9,p10,p11,p12⟩:=HB2
                   go_wp2_with fail
                   all_goals first
                     | (go_ret;exact ⟨Ao (by rw [HE.out];simp [valZ, *]),Ae HG0.out hg2⟩)
                     | (have HZ:Hid (valZ d.val=true):=Ac (by simp [valZ, *])
                        refine (G6 w2 d.mname d.mkind _ _ d.mg d.mv HAT.out.mkind.1 HAT.out.mkind.2 (HAT.out.g.more hg2) (HAT.out.v.more hg2)).mono ?_
                        rintro e w3 ⟨rfl,hg3⟩
                        generalize Bk d.mname.data.toList d.mkind d.mg d.mv=M at *
                        cases M with
                        | false =>
                          go_wp2_with fail
                          go_ret
                          exact ⟨Ao (by rw [HE.out];simp),Ae HG0.out (Ae hg2 hg3)⟩
                        | true =>
                          obtain ⟨q0,q1,q2,q3,q4,q5,q6,q7,q8,q9,q10,q11,q12⟩:=HBX1.out.more (Ae hg2 hg3)
                          by_cases hmk:d.mkind=d.kind
                          · have tmk:(d.mkind==d.kind)=true:=by rw [beq_iff_eq];exact hmk
                            have HMK:=Ac hmk
                            clear hmk
                            go_wp2_with fail
                            go_ret
                            exact ⟨Ao (by rw [HE.out,HW.out,HZ.out,HMK.out,Bool.eq_iff_iff];simp),Ae HG0.out (Ae hg2 hg3)⟩
                          · have tmk:(d.mkind==d.kind)=false:=by rw [beq_eq_false_iff_ne];exact hmk
                            have HMK:=Ac hmk
                            clear hmk
                            go_wp2_with fail
                            go_ret
                            exact ⟨Ao (by rw [HE.out];simp [HMK.out]),Ae HG0.out (Ae hg2 hg3)⟩)
              · have t115:(d.kind==115)=true:=by rw [beq_iff_eq];exact hkk
                clear hkk hkd
                as_aux_lemma =>
                 obtain ⟨z1,z2,z3,z4,z5⟩:=HAT.out.small
                 obtain ⟨W,hW⟩:∃ W,Cj d.wkind d.wvals.length d.wsteps.length=W:=⟨_,rfl⟩
                 have hC:=Dr wr d.wkind Av As d.wvals.length d.wsteps.length cv cs (by omega) (by omega)
                 rw [hW] at hC
                 have HW:=Ac hW
                 have HC:=Ac hC
                 clear hW hC
                 go_wp2_with fail
                 refine HC.out.mono ?_
                 rintro e w2 ⟨rfl,hg2⟩
                 cases W with
                 | false =>
                   go_wp2_with fail
                   go_ret
                   exact ⟨Ao (by rw [HE.out,HW.out];rfl),Ae HG0.out hg2⟩
                 | true =>
                   have HB2:=HBX1.out.more hg2
                   clear p0 p1 p2 p3 p4 p5 p6 p7 p8 p9 p10 p11 p12
                   obtain ⟨p0,p1,p2,p3,p4,p5,p6,p7,p8,p9,p10,p11,p12⟩:=HB2
                   go_wp2_with fail
                   all_goals first
                     | (go_ret;exact ⟨Ao (by rw [HE.out];simp [valZ, *]),Ae HG0.out hg2⟩)
                     | (have HZ:Hid (valZ d.val=true):=Ac (by simp [valZ, *])
                        refine (G6 w2 d.mname d.mkind _ _ d.mg d.mv HAT.out.mkind.1 HAT.out.mkind.2 (HAT.out.g.more hg2) (HAT.out.v.more hg2)).mono ?_
                        rintro e w3 ⟨rfl,hg3⟩
                        generalize Bk d.mname.data.toList d.mkind d.mg d.mv=M at *
                        cases M with
                        | false =>
                          go_wp2_with fail
                          go_ret
                          exact ⟨Ao (by rw [HE.out];simp),Ae HG0.out (Ae hg2 hg3)⟩
                        | true =>
                          obtain ⟨q0,q1,q2,q3,q4,q5,q6,q7,q8,q9,q10,q11,q12⟩:=HBX1.out.more (Ae hg2 hg3)
                          by_cases hmk:d.mkind=d.kind
                          · have tmk:(d.mkind==d.kind)=true:=by rw [beq_iff_eq];exact hmk
                            have HMK:=Ac hmk
                            clear hmk
                            go_wp2_with fail
                            go_ret
                            exact ⟨Ao (by rw [HE.out,HW.out,HZ.out,HMK.out,Bool.eq_iff_iff];simp),Ae HG0.out (Ae hg2 hg3)⟩
                          · have tmk:(d.mkind==d.kind)=false:=by rw [beq_eq_false_iff_ne];exact hmk
                            have HMK:=Ac hmk
                            clear hmk
                            go_wp2_with fail
                            go_ret
                            exact ⟨Ao (by rw [HE.out];simp [HMK.out]),Ae HG0.out (Ae hg2 hg3)⟩)
            have t100:(d.kind==100)=false:=by rw [beq_eq_false_iff_ne];omega
            have t115:(d.kind==115)=false:=by rw [beq_eq_false_iff_ne];omega
            by_cases hk3:d.kind=102∨d.kind=104
            · have hE:D=(decide (0≤d.ref)&&decide (d.ref<ds.length)&&decide ((ds.getD d.ref.toNat dev0).kind=118)&&Bu d.val&&(decide (d.val.1≠0)||!false)&&Cj d.wkind d.wvals.length d.wsteps.length&&Ci d.mname d.mkind d.mg.length d.mv.length):=by
                rw [HK.out];unfold G4;rw [if_neg hk1,if_neg hk2,if_pos hk3]
                rw [show (decide (d.kind=114)||decide (d.kind=99)||decide (d.kind=108))=false by simp;omega]
              have HE0:=Ac hE
              have hkk:(d.kind==102)=true∨((d.kind==102)=false∧(d.kind==104)=true):=by
                simp only [beq_iff_eq,beq_eq_false_iff_ne];omega
              have t114:(d.kind==114)=false:=by rw [beq_eq_false_iff_ne];omega
              have t99:(d.kind==99)=false:=by rw [beq_eq_false_iff_ne];omega
              have t108:(d.kind==108)=false:=by rw [beq_eq_false_iff_ne];omega
              have HD1:=Ac hd1
              clear hE hk1 hk2 hk3 HK hkd
              rcases hkk with t102 | ⟨t102,t104⟩
              all_goals
                by_cases r0:d.ref<0
                · go_wp2_with fail
                  go_ret
                  exact ⟨Ao (by rw [HE0.out];simp;omega),HG0.out⟩
                by_cases r1:(ds.length:Int)≤d.ref
                · go_wp2_with fail
                  go_ret
                  exact ⟨Ao (by rw [HE0.out];simp;omega),HG0.out⟩
                have r2:(0:Int)≤d.ref:=by omega
                have r3:d.ref<(ds.length:Int):=by omega
                obtain ⟨b',o',_,_,_,_,_,_,_,_,_,_,rfl,_,hc'⟩:=HD1.out.at2 (i:=d.ref.toNat) (by omega)
                have q0:=hc'.c0
                generalize hkr:(ds.getD d.ref.toNat dev0).kind=kr at *
                have HKR:=Ac hkr
                clear hkr hc'
                by_cases hv:kr=118
                · have tv1:(kr==118)=true:=by rw [beq_iff_eq];exact hv
                  have tv2:(kr != 118)=false:=by rw [bne_eq_false_iff_eq];exact hv
                  have HE:Hid (D=(Bu d.val&&(decide (d.val.1≠0)||!false)&&Cj d.wkind d.wvals.length d.wsteps.length&&Ci d.mname d.mkind d.mg.length d.mv.length)):=Ac (by rw [HE0.out];simp [hv,r2,r3])
                  clear hv HE0
                  as_aux_lemma =>
                   obtain ⟨z1,z2,z3,z4,z5⟩:=HAT.out.small
                   have hC:=Bd wr d.val.1 d.val.2 HAT.out.v1.1 HAT.out.v1.2 HAT.out.v2.1 HAT.out.v2.2
                   obtain ⟨N,hN⟩:∃ N,decide (NumOK d.val.1 d.val.2)=N:=⟨_,rfl⟩
                   rw [hN] at hC
                   have HN:Hid (Bu d.val=N):=Ac hN
                   have HC:=Ac hC
                   clear hN hC
                   go_wp2_with fail
                   refine HC.out.mono ?_
                   rintro e w2 ⟨rfl,hg2⟩
                   cases N with
                   | false =>
                     go_wp2_with fail
                     go_ret
                     exact ⟨Ao (by rw [HE.out,HN.out];simp),Ae HG0.out hg2⟩
                   | true =>
                     have HB2:=HBX1.out.more hg2
                     clear p0 p1 p2 p3 p4 p5 p6 p7 p8 p9 p10 p11 p12
                     obtain ⟨p0,p1,p2,p3,p4,p5,p6,p7,p8,p9,p10,p11,p12⟩:=HB2
                     by_cases hv:d.val.1=0
                     · have tv:(d.val.1==0)=true:=by rw [beq_iff_eq];exact hv
                       have tv2:(d.val.1 != 0)=false:=by rw [bne_eq_false_iff_eq];exact hv
                       have HV:Hid ((decide (d.val.1≠0)||!false)=true):=Ac (by simp)
                       clear hv
                       go_wp2_with fail
                       refine (Dr w2 d.wkind Av As d.wvals.length d.wsteps.length cv cs (by omega) (by omega)).mono ?_
                       rintro e w3 ⟨rfl,hg3⟩
                       generalize Cj d.wkind d.wvals.length d.wsteps.length=M at *
                       cases M with
                       | false =>
                         go_wp2_with fail
                         go_ret
                         exact ⟨Ao (by rw [HE.out];simp),Ae HG0.out (Ae hg2 hg3)⟩
                       | true =>
                         clear p0 p1 p2 p3 p4 p5 p6 p7 p8 p9 p10 p11 p12
                         obtain ⟨p0,p1,p2,p3,p4,p5,p6,p7,p8,p9,p10,p11,p12⟩:=HBX1.out.more (Ae hg2 hg3)
                         go_wp2_with fail
                         refine (Dg w3 d.mname d.mkind Ag Am d.mg.length d.mv.length cg cm (by omega) (by omega)).mono ?_
                         rintro e w4 ⟨rfl,hg4⟩
                         go_wp2_with fail
                         go_ret
                         exact ⟨Ao (by rw [HE.out,HN.out,HV.out];simp),Ae HG0.out (Ae hg2 (Ae hg3 hg4))⟩
                     · have tv:(d.val.1==0)=false:=by rw [beq_eq_false_iff_ne];exact hv
                       have tv2:(d.val.1 != 0)=true:=by rw [bne_iff_ne];exact hv
                       have HV:Hid ((decide (d.val.1≠0)||!false)=true):=Ac (by simp)
                       clear hv
                       go_wp2_with fail
                       refine (Dr w2 d.wkind Av As d.wvals.length d.wsteps.length cv cs (by omega) (by omega)).mono ?_
                       rintro e w3 ⟨rfl,hg3⟩
                       generalize Cj d.wkind d.wvals.length d.wsteps.length=M at *
                       cases M with
                       | false =>
                         go_wp2_with fail
                         go_ret
                         exact ⟨Ao (by rw [HE.out];simp),Ae HG0.out (Ae hg2 hg3)⟩
                       | true =>
                         clear p0 p1 p2 p3 p4 p5 p6 p7 p8 p9 p10 p11 p12
                         obtain ⟨p0,p1,p2,p3,p4,p5,p6,p7,p8,p9,p10,p11,p12⟩:=HBX1.out.more (Ae hg2 hg3)
                         go_wp2_with fail
                         refine (Dg w3 d.mname d.mkind Ag Am d.mg.length d.mv.length cg cm (by omega) (by omega)).mono ?_
                         rintro e w4 ⟨rfl,hg4⟩
                         go_wp2_with fail
                         go_ret
                         exact ⟨Ao (by rw [HE.out,HN.out,HV.out];simp),Ae HG0.out (Ae hg2 (Ae hg3 hg4))⟩
                · have tv1:(kr==118)=false:=by rw [beq_eq_false_iff_ne];exact hv
                  have tv2:(kr != 118)=true:=by rw [bne_iff_ne];exact hv
                  have HV:=Ac hv
                  clear hv
                  go_wp2_with fail
                  go_ret
                  exact ⟨Ao (by rw [HE0.out];simp [HV.out]),HG0.out⟩
            · obtain ⟨Z,hZ⟩:∃ Z,(decide (d.kind=114)||decide (d.kind=99)||decide (d.kind=108))=Z:=⟨_,rfl⟩
              have hE:D=(decide (d.ref=0)&&Bu d.val&&(decide (d.val.1≠0)||!Z)&&Cj d.wkind d.wvals.length d.wsteps.length&&Ci d.mname d.mkind d.mg.length d.mv.length):=by rw [HK.out,←hZ];unfold G4;rw [if_neg hk1,if_neg hk2,if_neg hk3]
              have HE0:=Ac hE
              have HZZ:Hid (((d.kind==114)=true∧Z=true)∨((d.kind==114)=false∧(d.kind==99)=true∧Z=true)∨((d.kind==114)=false∧(d.kind==99)=false∧(d.kind==108)=true∧Z=true)∨((d.kind==114)=false∧(d.kind==99)=false∧(d.kind==108)=false∧Z=false)):=Ac (by
                rw [←hZ]
                simp only [beq_iff_eq,beq_eq_false_iff_ne]
                by_cases a1:d.kind=114
                · simp [a1]
                · by_cases a2:d.kind=99
                  · simp [a2]
                  · by_cases a3:d.kind=108
                    · simp [a3]
                    · simp [a1,a2,a3])
              have t102:(d.kind==102)=false:=by rw [beq_eq_false_iff_ne];omega
              have t104:(d.kind==104)=false:=by rw [beq_eq_false_iff_ne];omega
              clear hE hZ hk1 hk2 hk3 HK
              by_cases hr:d.ref=0
              · have tr:(d.ref==0)=true:=by rw [beq_iff_eq];exact hr
                have HE:Hid (D=(Bu d.val&&(decide (d.val.1≠0)||!Z)&&Cj d.wkind d.wvals.length d.wsteps.length&&Ci d.mname d.mkind d.mg.length d.mv.length)):=Ac (by rw [HE0.out];simp [hr])
                clear hr HE0
                as_aux_lemma =>
                 go_upto_region 23 with (fail)
                 go_cut [8] (fun z wx=>z=.bool Z∧wx=wr)
                 case first =>
                   rcases HZZ.out with ⟨t114,hz⟩ | ⟨t114,t99,hz⟩ | ⟨t114,t99,t108,hz⟩ | ⟨t114,t99,t108,hz⟩
                   all_goals
                     have HZ1:=Ac hz
                     clear hz
                     go_wp2_with fail
                     go_meet
                     exact ⟨by rw [HZ1.out],rfl⟩
                 case rest =>
                   obtain ⟨rfl,rfl⟩:=hcut
                   obtain ⟨z1,z2,z3,z4,z5⟩:=HAT.out.small
                   have hC:=Bd wc d.val.1 d.val.2 HAT.out.v1.1 HAT.out.v1.2 HAT.out.v2.1 HAT.out.v2.2
                   obtain ⟨N,hN⟩:∃ N,decide (NumOK d.val.1 d.val.2)=N:=⟨_,rfl⟩
                   rw [hN] at hC
                   have HN:Hid (Bu d.val=N):=Ac hN
                   have HC:=Ac hC
                   clear hN hC
                   go_wp2_with fail
                   refine HC.out.mono ?_
                   rintro e w2 ⟨rfl,hg2⟩
                   cases N with
                   | false =>
                     go_wp2_with fail
                     go_ret
                     exact ⟨Ao (by rw [HE.out,HN.out];simp),Ae HG0.out hg2⟩
                   | true =>
                     have HB2:=HBX1.out.more hg2
                     clear p0 p1 p2 p3 p4 p5 p6 p7 p8 p9 p10 p11 p12
                     obtain ⟨p0,p1,p2,p3,p4,p5,p6,p7,p8,p9,p10,p11,p12⟩:=HB2
                     cases Z with
                     | true =>
                       by_cases hv:d.val.1=0
                       · have tv:(d.val.1==0)=true:=by rw [beq_iff_eq];exact hv
                         have tv2:(d.val.1 != 0)=false:=by rw [bne_eq_false_iff_eq];exact hv
                         have HV:=Ac hv
                         clear hv
                         go_wp2_with fail
                         go_ret
                         exact ⟨Ao (by rw [HE.out];simp [HV.out]),Ae HG0.out hg2⟩
                       · have tv:(d.val.1==0)=false:=by rw [beq_eq_false_iff_ne];exact hv
                         have tv2:(d.val.1 != 0)=true:=by rw [bne_iff_ne];exact hv
                         have HV:Hid ((decide (d.val.1≠0)||!true)=true):=Ac (by simp [hv])
                         clear hv
                         go_wp2_with fail
                         refine (Dr w2 d.wkind Av As d.wvals.length d.wsteps.length cv cs (by omega) (by omega)).mono ?_
                         rintro e w3 ⟨rfl,hg3⟩
                         generalize Cj d.wkind d.wvals.length d.wsteps.length=M at *
                         cases M with
                         | false =>
                           go_wp2_with fail
                           go_ret
                           exact ⟨Ao (by rw [HE.out];simp),Ae HG0.out (Ae hg2 hg3)⟩
                         | true =>
                           clear p0 p1 p2 p3 p4 p5 p6 p7 p8 p9 p10 p11 p12
                           obtain ⟨p0,p1,p2,p3,p4,p5,p6,p7,p8,p9,p10,p11,p12⟩:=HBX1.out.more (Ae hg2 hg3)
                           go_wp2_with fail
                           refine (Dg w3 d.mname d.mkind Ag Am d.mg.length d.mv.length cg cm (by omega) (by omega)).mono ?_
                           rintro e w4 ⟨rfl,hg4⟩
                           go_wp2_with fail
                           go_ret
                           exact ⟨Ao (by rw [HE.out,HN.out,HV.out];simp),Ae HG0.out (Ae hg2 (Ae hg3 hg4))⟩
                     | false =>
                       by_cases hv:d.val.1=0
                       · have tv:(d.val.1==0)=true:=by rw [beq_iff_eq];exact hv
                         have tv2:(d.val.1 != 0)=false:=by rw [bne_eq_false_iff_eq];exact hv
                         have HV:Hid ((decide (d.val.1≠0)||!false)=true):=Ac (by simp)
                         clear hv
                         go_wp2_with fail
                         refine (Dr w2 d.wkind Av As d.wvals.length d.wsteps.length cv cs (by omega) (by omega)).mono ?_
                         rintro e w3 ⟨rfl,hg3⟩
                         generalize Cj d.wkind d.wvals.length d.wsteps.length=M at *
                         cases M with
                         | false =>
                           go_wp2_with fail
                           go_ret
                           exact ⟨Ao (by rw [HE.out];simp),Ae HG0.out (Ae hg2 hg3)⟩
                         | true =>
                           clear p0 p1 p2 p3 p4 p5 p6 p7 p8 p9 p10 p11 p12
                           obtain ⟨p0,p1,p2,p3,p4,p5,p6,p7,p8,p9,p10,p11,p12⟩:=HBX1.out.more (Ae hg2 hg3)
                           go_wp2_with fail
                           refine (Dg w3 d.mname d.mkind Ag Am d.mg.length d.mv.length cg cm (by omega) (by omega)).mono ?_
                           rintro e w4 ⟨rfl,hg4⟩
                           go_wp2_with fail
                           go_ret
                           exact ⟨Ao (by rw [HE.out,HN.out,HV.out];simp),Ae HG0.out (Ae hg2 (Ae hg3 hg4))⟩
                       · have tv:(d.val.1==0)=false:=by rw [beq_eq_false_iff_ne];exact hv
                         have tv2:(d.val.1 != 0)=true:=by rw [bne_iff_ne];exact hv
                         have HV:Hid ((decide (d.val.1≠0)||!false)=true):=Ac (by simp)
                         clear hv
                         go_wp2_with fail
                         refine (Dr w2 d.wkind Av As d.wvals.length d.wsteps.length cv cs (by omega) (by omega)).mono ?_
                         rintro e w3 ⟨rfl,hg3⟩
                         generalize Cj d.wkind d.wvals.length d.wsteps.length=M at *
                         cases M with
                         | false =>
                           go_wp2_with fail
                           go_ret
                           exact ⟨Ao (by rw [HE.out];simp),Ae HG0.out (Ae hg2 hg3)⟩
                         | true =>
                           clear p0 p1 p2 p3 p4 p5 p6 p7 p8 p9 p10 p11 p12
                           obtain ⟨p0,p1,p2,p3,p4,p5,p6,p7,p8,p9,p10,p11,p12⟩:=HBX1.out.more (Ae hg2 hg3)
                           go_wp2_with fail
                           refine (Dg w3 d.mname d.mkind Ag Am d.mg.length d.mv.length cg cm (by omega) (by omega)).mono ?_
                           rintro e w4 ⟨rfl,hg4⟩
                           go_wp2_with fail
                           go_ret
                           exact ⟨Ao (by rw [HE.out,HN.out,HV.out];simp),Ae HG0.out (Ae hg2 (Ae hg3 hg4))⟩
              · have tr:(d.ref==0)=false:=by rw [beq_eq_false_iff_ne];exact hr
                have HR:=Ac hr
                clear hr
                go_wp2_with fail
                go_ret
                exact ⟨Ao (by rw [HE0.out];simp [HR.out]),HG0.out⟩
    · have t1:((d.nodes.length:Int)==nn)=false:=by rw [beq_eq_false_iff_ne];exact hnl
      have HNL:=Ac hnl
      clear hnl
      go_wp2_with fail
      go_ret
      exact ⟨Ao (by rw [←HD.out];simp [devB,HNN.out,HNL.out]),HW0.out⟩
end
end Go.Proofs.YtckbiimikeiejaaGreatDoor
