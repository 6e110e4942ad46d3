/- OrdC. -/
import Derived.Test.YtmfmfpmkgmkgiaaGreatDoorMay
import Derived.Test.YtmfmfpmkgmkgiaaGreatDoorMbh
import Derived.Test.YtmfmfpmkgmkgiaaGreatDoorMbe
import Derived.Test.YtmfmfpmkgmkgiaaGreatDoorMbi
import Derived.Deep.DeepCutAuto
import Derived.BigQuiet
set_option linter.unusedVariables false
set_option linter.unusedSimpArgs false
set_option maxHeartbeats 40000000
namespace Go.Proofs.YtmfmfpmkgmkgiaaGreatDoor
section
open Go.RowKit Go.Maps
def Ff (z:Int):Bool:=decide (z=114)||decide (z=103)||decide (z=105)
theorem O7 {z:Int}:Ff z=true↔Ly z:=by simp [Ff,Ly,or_assoc]
theorem Nr (z:Int):((z != 114)=false∧Ff z=true)∨((z != 114)=true∧(z != 103)=false∧Ff z=true)∨((z != 114)=true∧(z != 103)=true∧(z != 105)=false∧Ff z=true)∨((z != 114)=true∧(z != 103)=true∧(z != 105)=true∧Ff z=false):=by
 simp only [bne_eq_false_iff_eq,bne_iff_ne]
 by_cases h1:z=114
 ·exact .inl ⟨h1,by simp [Ff,h1]⟩
 ·by_cases h2:z=103
  ·exact .inr (.inl ⟨h1,h2,by simp [Ff,h2]⟩)
  ·by_cases h3:z=105
   ·exact .inr (.inr (.inl ⟨h1,h2,h3,by simp [Ff,h3]⟩))
   ·exact .inr (.inr (.inr ⟨h1,h2,h3,by simp [Ff,h1,h2,h3]⟩))
set_option maxRecDepth 100000 in
theorem Ro (w:World) (f:Bf) (A1:Option Addr) (c1:Nat) (A2:Option Addr) (c2:Nat) (hf:FlatAt w f A1 c1 A2 c2) (hG:GlobOK w)
  (hbk:∀ d∈f.devs,d.mname.size≤4611686018427387904∧d.nodes.length≤2000000∧d.wvals.length≤2000000∧d.wsteps.length≤2000000∧d.mg.length≤2000000∧d.mv.length≤2000000)
  (mode method:Int) (step:Int × Int) (i1:I64 step.1) (i2:I64 step.2) (Aq:Option Addr) (cq:Nat) (segs:List Int) (hsr:IntRow w (.slice Aq segs.length cq) segs)
  (Ap:Option Addr) (cp:Nat) (pl:List Int) (hpl:IntRow w (.slice Ap pl.length cp) pl) :
  Calls Tryz.prog 7 #[.agg #[.slice A1 f.nodes.length c1,.slice A2 f.devs.length c2,.int .i64 f.step.1,.int .i64 f.step.2,.int .i64 f.method],.agg #[.int .i64 mode,.int .i64 method,.int .i64 step.1,.int .i64 step.2,.slice Aq segs.length cq],.slice Ap pl.length cp] w fun e w'=>e=.returned (.bool true)∧w.grownBy w' none:=by
 have g1:=Af w (.cells #[.slice A1 f.nodes.length c1,.slice A2 f.devs.length c2,.int .i64 f.step.1,.int .i64 f.step.2,.int .i64 f.method] 27) none
 have g2:=Af (w.alloc (.cells #[.slice A1 f.nodes.length c1,.slice A2 f.devs.length c2,.int .i64 f.step.1,.int .i64 f.step.2,.int .i64 f.method] 27)) (.cells #[.int .i64 mode,.int .i64 method,.int .i64 step.1,.int .i64 step.2,.slice Aq segs.length cq] 32) none
 have gw:=Ae g1 g2
 have HFB:=Ac ((FlatBox.of (Blk.new w #[.slice A1 f.nodes.length c1,.slice A2 f.devs.length c2,.int .i64 f.step.1,.int .i64 f.step.2,.int .i64 f.method] 27)).more g2)
 have hQB:=Blk.new (w.alloc (.cells #[.slice A1 f.nodes.length c1,.slice A2 f.devs.length c2,.int .i64 f.step.1,.int .i64 f.step.2,.int .i64 f.method] 27)) #[.int .i64 mode,.int .i64 method,.int .i64 step.1,.int .i64 step.2,.slice Aq segs.length cq] 32
 rw [World.size_alloc] at hQB
 have HQB:=Ac hQB
 have HF:=Ac (hf.more gw)
 have HG:=Ac (hG.more gw)
 have HSR:=Ac (hsr.more gw)
 have HPL:=Ac (hpl.more gw)
 have HGW:=Ac gw
 have HBK:=Ac hbk
 obtain ⟨_,_,_,pl1,pl2⟩:=hpl.ctor
 clear hf hG hsr hpl g1 g2 gw hQB hbk
 go_enter Tryz.func7,Tryz.ntmps7
 go_wp2_with fail
 generalize (w.alloc (.cells #[.slice A1 f.nodes.length c1,.slice A2 f.devs.length c2,.int .i64 f.step.1,.int .i64 f.step.2,.int .i64 f.method] 27)).alloc (.cells #[.int .i64 mode,.int .i64 method,.int .i64 step.1,.int .i64 step.2,.slice Aq segs.length cq] 32)=wa at *
 generalize w.heap.size=s at *
 refine (Rw wa HG.out).mono ?_
 rintro e w1 ⟨rfl,hg1⟩
 have HG1:=Ac hg1
 clear hg1
 by_cases h2:(pl.length:Int)<2
 ·as_aux_lemma =>
   go_wp2_with fail
   go_ret
   exact ⟨rfl,Ae HGW.out HG1.out⟩
 obtain ⟨bp,op,rfl,⟨ui1,ui2⟩,u0⟩:=(HPL.out.more HG1.out).at (i:=0) (by omega)
 obtain ⟨bp',op',e',⟨uk1,uk2⟩,u1⟩:=(HPL.out.more HG1.out).at (i:=1) (by omega)
 injection e' with e'
 injection e' with e1 e2
 subst e1 e2
 generalize pl.getD 0 0=i at *
 generalize pl.getD 1 0=k at *
 rw [Nat.add_zero] at u0
 have l0:(0:Int)<(pl.length:Int):=by omega
 have l1:(1:Int)<(pl.length:Int):=by omega
 have HU:=Ac (And.intro (And.intro ui1 ui2) (And.intro uk1 uk2))
 clear ui1 ui2 uk1 uk2
 go_wp2_with fail
 go_quiet (fail)
 have HG1:=Ac (Ae HG1.out (Az w1 nq none))
 clear u0 u1 l0 l1 h2
 generalize w1.drewN nq=w2 at *
 obtain ⟨p0,p1,p2,p3,p4⟩:=HFB.out.more HG1.out
 go_wp2_with fail
 refine (Ry w2 f _ _ _ _ (HF.out.more HG1.out)).mono ?_
 rintro e w3 ⟨b,rfl,hg3⟩
 have HG3:=Ac (Ae HG1.out hg3)
 clear hg3 p0 p1 p2 p3 p4
 rcases b with _ | _
 rotate_left
 ·as_aux_lemma =>
   go_wp2_with fail
   go_ret
   exact ⟨rfl,Ae HGW.out HG3.out⟩
 obtain ⟨p0,p1,p2,p3,p4⟩:=HFB.out.more HG3.out
 have hqb:=HQB.out.more HG3.out
 have q0:=hqb.cell 0
 have q1:=hqb.cell 1
 have q2:=hqb.cell 2
 have q3:=hqb.cell 3
 have q4:=hqb.cell 4
 simp only [List.getElem?_toArray,List.getElem?_cons_zero,List.getElem?_cons_succ] at q0 q1 q2 q3 q4
 clear hqb
 go_wp2_with fail
 have hC:=Py w3 f _ _ _ _ (HF.out.more HG3.out) (fun d hd=>(HBK.out d hd).1) mode method step i1 i2 Aq cq segs (HSR.out.more HG3.out)
 obtain ⟨E,hE⟩:∃ E,Cz f mode method step segs=E:=⟨_,rfl⟩
 rw [hE] at hC
 refine hC.mono ?_
 rintro e w4 ⟨rfl,hg4⟩
 have HG4:=Ac (Ae HG3.out hg4)
 have HE:=Ac hE
 clear hC hE hg4 p0 p1 p2 p3 p4 q0 q1 q2 q3 q4
 obtain ⟨p0,p1,p2,p3,p4⟩:=HFB.out.more HG4.out
 by_cases h0:E=0
 rotate_left
 ·have t0:(E != 0)=true:=by rw [bne_iff_ne];exact h0
  clear h0
  as_aux_lemma =>
   go_wp2_with fail
   go_ret
   exact ⟨rfl,Ae HGW.out HG4.out⟩
 subst h0
 by_cases hi0:i<0
 ·as_aux_lemma =>
   go_wp2_with fail
   go_ret
   exact ⟨rfl,Ae HGW.out HG4.out⟩
 by_cases hk0:k<0
 ·as_aux_lemma =>
   go_wp2_with fail
   go_ret
   exact ⟨rfl,Ae HGW.out HG4.out⟩
 by_cases hi1:(f.devs.length:Int)≤i
 ·as_aux_lemma =>
   go_wp2_with fail
   go_ret
   exact ⟨rfl,Ae HGW.out HG4.out⟩
 by_cases hk1:(f.devs.length:Int)≤k
 ·as_aux_lemma =>
   go_wp2_with fail
   go_ret
   exact ⟨rfl,Ae HGW.out HG4.out⟩
 go_upto_region 8 with (fail)
 obtain ⟨i,rfl⟩:∃ n:Nat,i=(n:Int):=⟨i.toNat,by omega⟩
 obtain ⟨k,rfl⟩:∃ n:Nat,k=(n:Int):=⟨k.toNat,by omega⟩
 have hil:i<f.devs.length:=by omega
 have hkl:k<f.devs.length:=by omega
 obtain ⟨bd,od,Bn,cbn,Bv,cbv,Bs,cbs,Bg,cbg,Bm,cbm,rfl,hat,hc⟩:=(HF.out.more HG4.out).devs.at2 hil
 obtain ⟨bd',od',_,_,_,_,_,_,_,_,_,_,e',_,hc'⟩:=(HF.out.more HG4.out).devs.at2 hkl
 injection e' with e'
 injection e' with e1 e2
 subst e1 e2
 have q0:=hc.c0
 have r0:=hc'.c0
 have HSP:Hid (Ff (f.devs.getD i dev0).kind=true→Ff (f.devs.getD k dev0).kind=true→Swap f.devs i k):=Ac fun a b=>⟨hil,hkl,O7.1 a,O7.1 b⟩
 clear hc hc' hat
 generalize (f.devs.getD i dev0).kind=ki at *
 generalize (f.devs.getD k dev0).kind=kk at *
 have e1:(i:Int)<(f.devs.length:Int):=by omega
 have e2:(k:Int)<(f.devs.length:Int):=by omega
 have e3:(0:Int)≤(i:Int):=by omega
 have e4:(0:Int)≤(k:Int):=by omega
 clear hi0 hk0 hi1 hk1
 go_quiet (fail)
 have HG4:=Ac (Ae HG4.out (Az w4 nq none))
 clear q0 r0 p0 p1 p2 p3 p4
 generalize w4.drewN nq=w5 at *
 go_upto_region 9 with (fail)
 obtain ⟨AB,hAB⟩:∃ AB,(Ff ki&&Ff kk)=AB:=⟨_,rfl⟩
 have HABE:=Ac hAB
 clear hAB
 go_cut [94] (fun z wx=>z=.bool (!AB)∧wx=w5)
 case first =>
  rcases Nr ki with ⟨a1,a0⟩ | ⟨a1,a2,a0⟩ | ⟨a1,a2,a3,a0⟩ | ⟨a1,a2,a3,a0⟩<;>rcases Nr kk with ⟨b1,b0⟩ | ⟨b1,b2,b0⟩ | ⟨b1,b2,b3,b0⟩ | ⟨b1,b2,b3,b0⟩
  all_goals
   have HAB:=Ac (And.intro a0 b0)
   clear a0 b0
   go_wp2_with fail
   go_meet
   exact ⟨by rw [←HABE.out,HAB.out.1,HAB.out.2];rfl,rfl⟩
 case rest =>
  obtain ⟨rfl,rfl⟩:=hcut
  obtain ⟨wk,rfl⟩:∃ wk:World,wk=wc:=⟨_,rfl⟩
  rcases AB with _ | _
  ·as_aux_lemma =>
    go_wp2_with fail
    go_ret
    exact ⟨rfl,Ae HGW.out HG4.out⟩
  have hsw:Swap f.devs i k:=by
   have h:=HABE.out
   rw [Bool.and_eq_true] at h
   exact HSP.out h.1 h.2
  have HSW:=Ac hsw
  obtain ⟨nl1,dl1,_⟩:=Fb (L5 HE.out).1
  obtain ⟨p0,p1,p2,p3,p4⟩:=HFB.out.more HG4.out
  clear hsw HSP HABE
  go_wp2_with fail
  refine (Re wk f _ _ _ _ (HF.out.more HG4.out) (by omega) (by omega) (fun d hd=>(HBK.out d hd).2)).mono ?_
  rintro e w6 ⟨B1,k1,B2,k2,base,rfl,hrow,hlow,hbase,hdv,hg6⟩
  obtain ⟨b,c,cur,eB,hbb,hc1,hc2,hB,hsz,hsoft,hat⟩:=hdv.block (by omega)
  injection eB with e5 e6 e7
  subst e5 e7
  obtain ⟨csi,qi1,qi2,qi3⟩:=hat i hil
  obtain ⟨csk,qk1,qk2,qk3⟩:=hat k hkl
  obtain ⟨Ai1,ni1,Ai2,ni2,Ai3,ni3,Ai4,ni4,Ai5,ni5,rfl,_⟩:=qi1.v.open
  obtain ⟨Ak1,nk1,Ak2,nk2,Ak3,nk3,Ak4,nk4,Ak5,nk5,rfl,_⟩:=qk1.v.open
  have HG6:=Ac (Ae HG4.out hg6)
  have HROW:=Ac hrow
  have HLOW:=Ac hlow
  have HBASE:Hid (wk.heap.size≤base∧base≤b):=Ac ⟨hbase,hbb⟩
  have HSWM:Hid (∀ W,w6.grownBy W none→Blk W b cur→DevRow (putAll (putAll W b (i*13) (E3 (f.devs.getD k dev0) Ak1 nk1 Ak2 nk2 Ak3 nk3 Ak4 nk4 Ak5 nk5)) b (k*13) (E3 (f.devs.getD i dev0) Ai1 ni1 Ai2 ni2 Ai3 ni3 Ai4 ni4 Ai5 ni5)) (.slice (some ⟨b,0,none⟩) f.devs.length k2) (Ec f.devs i k)∧W.grownBy (putAll (putAll W b (i*13) (E3 (f.devs.getD k dev0) Ak1 nk1 Ak2 nk2 Ak3 nk3 Ak4 nk4 Ak5 nk5)) b (k*13) (E3 (f.devs.getD i dev0) Ai1 ni1 Ai2 ni2 Ai3 ni3 Ai4 ni4 Ai5 ni5)) (some b)):=Ac fun W hg hBW =>
   A04 hBW (hsoft.more hg hB) hc1 hc2 hsz (fun i hi=>by obtain ⟨cs,a1,a2,a3⟩:=hat i hi;exact ⟨cs,a1.step (StayR.none hg),a2,a3⟩) HSW.out qi2 qk2 qi3 qk3
  have HQI:Hid (∀ W,Blk W b cur→N6 W b (i*13) (f.devs.getD i dev0) Ai1 ni1 Ai2 ni2 Ai3 ni3 Ai4 ni4 Ai5 ni5):=Ac fun W h=>⟨(h.cell _).trans (qi3 0 (by omega)),(h.cell _).trans (qi3 1 (by omega)),(h.cell _).trans (qi3 2 (by omega)),(h.cell _).trans (qi3 3 (by omega)),(h.cell _).trans (qi3 4 (by omega)),(h.cell _).trans (qi3 5 (by omega)),(h.cell _).trans (qi3 6 (by omega)),(h.cell _).trans (qi3 7 (by omega)),(h.cell _).trans (qi3 8 (by omega)),(h.cell _).trans (qi3 9 (by omega)),(h.cell _).trans (qi3 10 (by omega)),(h.cell _).trans (qi3 11 (by omega)),(h.cell _).trans (qi3 12 (by omega))⟩
  have HQK:Hid (∀ W,Blk W b cur→N6 W b (k*13) (f.devs.getD k dev0) Ak1 nk1 Ak2 nk2 Ak3 nk3 Ak4 nk4 Ak5 nk5):=Ac fun W h=>⟨(h.cell _).trans (qk3 0 (by omega)),(h.cell _).trans (qk3 1 (by omega)),(h.cell _).trans (qk3 2 (by omega)),(h.cell _).trans (qk3 3 (by omega)),(h.cell _).trans (qk3 4 (by omega)),(h.cell _).trans (qk3 5 (by omega)),(h.cell _).trans (qk3 6 (by omega)),(h.cell _).trans (qk3 7 (by omega)),(h.cell _).trans (qk3 8 (by omega)),(h.cell _).trans (qk3 9 (by omega)),(h.cell _).trans (qk3 10 (by omega)),(h.cell _).trans (qk3 11 (by omega)),(h.cell _).trans (qk3 12 (by omega))⟩
  have HBC:=Ac hB
  clear hrow hlow hbase hdv hbb hB hsoft hat qi1 qi2 qi3 qk1 qk2 qk3 hg6 p0 p1 p2 p3 p4
  go_upto_region 12 with (fail)
  have HZ:=Ac (Blk.new w6 #[.slice B1 f.nodes.length k1,.slice (some ⟨b,0,none⟩) f.devs.length k2,.int .i64 f.step.1,.int .i64 f.step.2,.int .i64 f.method] 27)
  have HG7:=Ac (Af w6 (.cells #[.slice B1 f.nodes.length k1,.slice (some ⟨b,0,none⟩) f.devs.length k2,.int .i64 f.step.1,.int .i64 f.step.2,.int .i64 f.method] 27) none)
  generalize w6.alloc (.cells #[.slice B1 f.nodes.length k1,.slice (some ⟨b,0,none⟩) f.devs.length k2,.int .i64 f.step.1,.int .i64 f.step.2,.int .i64 f.method] 27)=w7 at *
  obtain ⟨z,hz⟩:∃ z,w6.heap.size=z:=⟨_,rfl⟩
  rw [hz] at HZ ⊢
  have HZE:=Ac hz
  clear hz
  go_cut [7] (fun u wx=>u=.int .i64 (i:Int)∧Hid (DevRow wx (.slice (some ⟨b,0,none⟩) f.devs.length k2) (Ec f.devs i k)∧w7.grownBy wx (some b)))
  case first =>
   have hB7:=HBC.out.more HG7.out
   have hB8:=hB7.more (Ai w7 none)
   have hz8:=(HZ.out.more (Ai w7 none)).cell 1
   simp only [List.getElem?_toArray,List.getElem?_cons_zero,List.getElem?_cons_succ] at hz8
   have HFIN:=Ac (HSWM.out w7.drew (Ae HG7.out (Ai w7 none)) hB8)
   have HDR:Hid (w7.grownBy w7.drew none):=Ac (Ai w7 none)
   have hbz:b<z:=by have:=Dp (HQI.out _ HBC.out).c0;have:=HZE.out;omega
   have HQI8:=HQI.out _ hB8
   have HQK8:=HQK.out _ hB8
   have hS0:w7.drew.cell? ⟨z,1,none⟩=some (.slice (some ⟨b,0,none⟩) f.devs.length k2)∧Blk w7.drew b cur:=⟨hz8,hB8⟩
   clear hB7 hz8
   refine Sv (S:=fun W=>W.cell? ⟨z,1,none⟩=some (.slice (some ⟨b,0,none⟩) f.devs.length k2)∧Blk W b cur) (z:=17) (by kernel_rfl) ?_
   generalize f.devs.getD i dev0=di at *
   generalize f.devs.getD k dev0=dk at *
   generalize w7.drew=w8 at *
   refine C8 0 [17] (v:=?_) rfl (by kernel_rfl) (by kernel_rfl) (by kernel_rfl) (fun _ _ _ h=>h) (by decide) (by kernel_rfl) (by kernel_rfl) (by rfl) ?_ (by assumption) ?_
   rotate_left
   ·intro W hSw;(try dsimp only at hSw);obtain ⟨hSw1,_⟩:=hSw;go_simp;(try with_reducible rfl)
   try simp only [Act.put,List.setIfInBounds_toArray,List.set_cons_zero,List.set_cons_succ]
   refine C8 1 [17] (v:=?_) rfl (by kernel_rfl) (by kernel_rfl) (by kernel_rfl) (fun _ _ _ h=>h) (by decide) (by kernel_rfl) (by kernel_rfl) (by rfl) ?_ (by assumption) ?_
   rotate_left
   ·intro W hSw;(try dsimp only at hSw);obtain ⟨hSw1,_⟩:=hSw;go_simp;(try with_reducible rfl)
   try simp only [Act.put,List.setIfInBounds_toArray,List.set_cons_zero,List.set_cons_succ]
   refine C8 2 [17] (v:=?_) rfl (by kernel_rfl) (by kernel_rfl) (by kernel_rfl) (fun _ _ _ h=>h) (by decide) (by kernel_rfl) (by kernel_rfl) (by rfl) ?_ (by assumption) ?_
   rotate_left
   ·intro W hSw;(try dsimp only at hSw);obtain ⟨hSw1,_⟩:=hSw;go_simp;(try with_reducible rfl)
   try simp only [Act.put,List.setIfInBounds_toArray,List.set_cons_zero,List.set_cons_succ]
   refine C8 6 [17] (v:=?_) rfl (by kernel_rfl) (by kernel_rfl) (by kernel_rfl) (fun _ _ _ h=>h) (by decide) (by kernel_rfl) (by kernel_rfl) (by rfl) ?_ (by assumption) ?_
   rotate_left
   ·intro W hSw;(try dsimp only at hSw);obtain ⟨hSw1,_⟩:=hSw;go_simp;(try with_reducible rfl)
   try simp only [Act.put,List.setIfInBounds_toArray,List.set_cons_zero,List.set_cons_succ]
   refine C8 7 [17] (v:=?_) rfl (by kernel_rfl) (by kernel_rfl) (by kernel_rfl) (fun _ _ _ h=>h) (by decide) (by kernel_rfl) (by kernel_rfl) (by rfl) ?_ (by assumption) ?_
   rotate_left
   ·intro W hSw;(try dsimp only at hSw);obtain ⟨hSw1,_⟩:=hSw;go_simp;(try with_reducible rfl)
   try simp only [Act.put,List.setIfInBounds_toArray,List.set_cons_zero,List.set_cons_succ]
   refine C8 8 [17] (v:=?_) rfl (by kernel_rfl) (by kernel_rfl) (by kernel_rfl) (fun _ _ _ h=>h) (by decide) (by kernel_rfl) (by kernel_rfl) (by rfl) ?_ (by assumption) ?_
   rotate_left
   ·intro W hSw;(try dsimp only at hSw);obtain ⟨hSw1,_⟩:=hSw;go_simp;(try with_reducible rfl)
   try simp only [Act.put,List.setIfInBounds_toArray,List.set_cons_zero,List.set_cons_succ]
   refine C8 9 [17] (v:=?_) rfl (by kernel_rfl) (by kernel_rfl) (by kernel_rfl) (fun _ _ _ h=>h) (by decide) (by kernel_rfl) (by kernel_rfl) (by rfl) ?_ (by assumption) ?_
   rotate_left
   ·intro W hSw;(try dsimp only at hSw);obtain ⟨hSw1,_⟩:=hSw;go_simp;(try with_reducible rfl)
   try simp only [Act.put,List.setIfInBounds_toArray,List.set_cons_zero,List.set_cons_succ]
   refine C8 10 [17] (v:=?_) rfl (by kernel_rfl) (by kernel_rfl) (by kernel_rfl) (fun _ _ _ h=>h) (by decide) (by kernel_rfl) (by kernel_rfl) (by rfl) ?_ (by assumption) ?_
   rotate_left
   ·intro W hSw;(try dsimp only at hSw);obtain ⟨_,hSw2⟩:=hSw;obtain ⟨d0,d1,d2,d3,d4,d5,d6,d7,d8,d9,d10,d11,d12⟩:=HQK.out W hSw2;clear hSw2;go_simp;(try with_reducible rfl)
   try simp only [Act.put,List.setIfInBounds_toArray,List.set_cons_zero,List.set_cons_succ]
   refine C8 11 [12,14,15,17] (v:=?_) rfl (by kernel_rfl) (by kernel_rfl) (by kernel_rfl) (fun _ _ _ h=>h) (by decide) (by kernel_rfl) (by kernel_rfl) (by rfl) ?_ (by assumption) ?_
   rotate_left
   ·intro W hSw;(try dsimp only at hSw);obtain ⟨hSw1,_⟩:=hSw;go_simp;(try with_reducible rfl)
   try simp only [Act.put,List.setIfInBounds_toArray,List.set_cons_zero,List.set_cons_succ]
   refine C8 12 [14,15,17] (v:=?_) rfl (by kernel_rfl) (by kernel_rfl) (by kernel_rfl) (fun _ _ _ h=>h) (by decide) (by kernel_rfl) (by kernel_rfl) (by rfl) ?_ (by assumption) ?_
   rotate_left
   ·intro W hSw;(try dsimp only at hSw);obtain ⟨hSw1,_⟩:=hSw;go_simp;(try with_reducible rfl)
   try simp only [Act.put,List.setIfInBounds_toArray,List.set_cons_zero,List.set_cons_succ]
   refine C8 13 [14,15,17] (v:=?_) rfl (by kernel_rfl) (by kernel_rfl) (by kernel_rfl) (fun _ _ _ h=>h) (by decide) (by kernel_rfl) (by kernel_rfl) (by rfl) ?_ (by assumption) ?_
   rotate_left
   ·intro W hSw;(try dsimp only at hSw);obtain ⟨hSw1,_⟩:=hSw;go_simp;(try with_reducible rfl)
   try simp only [Act.put,List.setIfInBounds_toArray,List.set_cons_zero,List.set_cons_succ]
   refine C8 14 [15,17] (v:=?_) rfl (by kernel_rfl) (by kernel_rfl) (by kernel_rfl) (fun _ _ _ h=>h) (by decide) (by kernel_rfl) (by kernel_rfl) (by rfl) ?_ (by assumption) ?_
   rotate_left
   ·intro W hSw;(try dsimp only at hSw);obtain ⟨hSw1,_⟩:=hSw;go_simp;(try with_reducible rfl)
   try simp only [Act.put,List.setIfInBounds_toArray,List.set_cons_zero,List.set_cons_succ]
   refine C8 15 [17] (v:=?_) rfl (by kernel_rfl) (by kernel_rfl) (by kernel_rfl) (fun _ _ _ h=>h) (by decide) (by kernel_rfl) (by kernel_rfl) (by rfl) ?_ (by assumption) ?_
   rotate_left
   ·intro W hSw;(try dsimp only at hSw);obtain ⟨_,hSw2⟩:=hSw;obtain ⟨d0,d1,d2,d3,d4,d5,d6,d7,d8,d9,d10,d11,d12⟩:=HQI.out W hSw2;clear hSw2;go_simp;(try with_reducible rfl)
   try simp only [Act.put,List.setIfInBounds_toArray,List.set_cons_zero,List.set_cons_succ]
   refine Oq 3 (v:=?_) rfl (by kernel_rfl) (by kernel_rfl) (by kernel_rfl) (fun _ _ _ h=>h) (by decide) (by rfl) ?_ (fun _=>hS0) ?_
   rotate_left
   ·intro W;go_simp;(try with_reducible rfl)
   try simp only [Act.put,List.setIfInBounds_toArray,List.set_cons_zero,List.set_cons_succ]
   refine Oq 5 (v:=?_) rfl (by kernel_rfl) (by kernel_rfl) (by kernel_rfl) (fun _ _ _ h=>h) (by decide) (by rfl) ?_ (fun _=>hS0) ?_
   rotate_left
   ·intro W;go_simp;(try with_reducible rfl)
   try simp only [Act.put,List.setIfInBounds_toArray,List.set_cons_zero,List.set_cons_succ]
   refine Oq 16 (v:=?_) rfl (by kernel_rfl) (by kernel_rfl) (by kernel_rfl) (fun _ _ _ h=>h) (by decide) (by rfl) ?_ (fun _=>hS0) ?_
   rotate_left
   ·intro W;go_simp;(try with_reducible rfl)
   try simp only [Act.put,List.setIfInBounds_toArray,List.set_cons_zero,List.set_cons_succ]
   refine A17 4 17 (by kernel_rfl) rfl rfl (fun K4 hK4=>?_) (fun K17 hK17=>?_)
   ·have hz8:=hS0.1
    rw [if_pos (by rfl)]
    go_simp
    refine hK4.out _ _ (fun _=>hS0) ?_
    try simp only [Act.put,List.setIfInBounds_toArray,List.set_cons_zero,List.set_cons_succ]
    refine Eo 17 (by kernel_rfl) rfl (fun K17 hK17=>?_)
    obtain ⟨d0,d1,d2,d3,d4,d5,d6,d7,d8,d9,d10,d11,d12⟩:=HQI8
    have f0:=hB8.free (i*13)
    have f1:=hB8.free (i*13+1)
    have f2:=hB8.free (i*13+2)
    have f3:=hB8.free (i*13+3)
    have f4:=hB8.free (i*13+4)
    have f5:=hB8.free (i*13+5)
    have f6:=hB8.free (i*13+6)
    have f7:=hB8.free (i*13+7)
    have f8:=hB8.free (i*13+8)
    have f9:=hB8.free (i*13+9)
    have f10:=hB8.free (i*13+10)
    have f11:=hB8.free (i*13+11)
    have f12:=hB8.free (i*13+12)
    rw [if_pos (by rfl)]
    go_simp
    refine hK17.out _ _ (fun h=>absurd (h.symm.trans (by kernel_rfl:_=true)) (by decide)) ?_
    try simp only [Act.put,List.setIfInBounds_toArray,List.set_cons_zero,List.set_cons_succ]
    clear d0 d1 d2 d3 d4 d5 d6 d7 d8 d9 d10 d11 d12 f0 f1 f2 f3 f4 f5 f6 f7 f8 f9 f10 f11 f12 hK17
    obtain ⟨W1,hW1⟩:∃ W1,W1=putAll w8 b (i*13) (E3 dk Ak1 nk1 Ak2 nk2 Ak3 nk3 Ak4 nk4 Ak5 nk5):=⟨_,rfl⟩
    change wpU _ _ _ _ _ _ _ _ _ (putAll w8 b (i*13) (E3 dk Ak1 nk1 Ak2 nk2 Ak3 nk3 Ak4 nk4 Ak5 nk5))
    rw [←hW1]
    obtain ⟨cur1,hB1,hsz1⟩:∃ cur1,Blk W1 b cur1∧cur1.size=cur.size:=⟨_,by rw [hW1];exact hB8.putAll,Ho _ _ _⟩
    have hG1:w8.grownBy W1 (some b):=by rw [hW1];exact Ht
    have HW1:=Ac hW1
    clear hW1
    clear hS0
    refine Eo 18 (by kernel_rfl) rfl (fun K18 hK18=>?_)
    rw [if_pos (by rfl)]
    go_simp
    refine hK18.out _ _ (fun h=>absurd (h.symm.trans (by kernel_rfl:_=true)) (by decide)) ?_
    try simp only [Act.put,List.setIfInBounds_toArray,List.set_cons_zero,List.set_cons_succ]
    refine Eo 19 (by kernel_rfl) rfl (fun K19 hK19=>?_)
    obtain ⟨x0,x1,x2,x3,x4,x5,x6,x7,x8,x9,x10,x11,x12,d0,d1,d2,d3,d4,d5,d6,d7,d8,d9,d10,d11,d12⟩:=hB1.room13 (o:=k*13) (by omega)
    have f0:=hB1.free (k*13)
    have f1:=hB1.free (k*13+1)
    have f2:=hB1.free (k*13+2)
    have f3:=hB1.free (k*13+3)
    have f4:=hB1.free (k*13+4)
    have f5:=hB1.free (k*13+5)
    have f6:=hB1.free (k*13+6)
    have f7:=hB1.free (k*13+7)
    have f8:=hB1.free (k*13+8)
    have f9:=hB1.free (k*13+9)
    have f10:=hB1.free (k*13+10)
    have f11:=hB1.free (k*13+11)
    have f12:=hB1.free (k*13+12)
    rw [if_pos (by rfl)]
    go_simp
    refine hK19.out _ _ (fun h=>absurd (h.symm.trans (by kernel_rfl:_=true)) (by decide)) ?_
    clear hK19
    refine Oo (by kernel_rfl) ?_
    clear d0 d1 d2 d3 d4 d5 d6 d7 d8 d9 d10 d11 d12 f0 f1 f2 f3 f4 f5 f6 f7 f8 f9 f10 f11 f12
    obtain ⟨W2,hW2⟩:∃ W2,W2=putAll W1 b (k*13) (E3 di Ai1 ni1 Ai2 ni2 Ai3 ni3 Ai4 ni4 Ai5 ni5):=⟨_,rfl⟩
    change (Exit.then _ _) Exit.normal _ (putAll W1 b (k*13) (E3 di Ai1 ni1 Ai2 ni2 Ai3 ni3 Ai4 ni4 Ai5 ni5))
    rw [←hW2]
    have hfin:=HFIN.out
    rw [←HW1.out,←hW2] at hfin
    clear hW2
    try simp only [Exit.inBlock,Exit.then]
    go_wp2_with fail
    go_meet
    exact ⟨rfl,Ac ⟨hfin.1,Ae (C0 HDR.out) hfin.2⟩⟩
   ·skip
    obtain ⟨d0,d1,d2,d3,d4,d5,d6,d7,d8,d9,d10,d11,d12⟩:=HQI8
    have f0:=hB8.free (i*13)
    have f1:=hB8.free (i*13+1)
    have f2:=hB8.free (i*13+2)
    have f3:=hB8.free (i*13+3)
    have f4:=hB8.free (i*13+4)
    have f5:=hB8.free (i*13+5)
    have f6:=hB8.free (i*13+6)
    have f7:=hB8.free (i*13+7)
    have f8:=hB8.free (i*13+8)
    have f9:=hB8.free (i*13+9)
    have f10:=hB8.free (i*13+10)
    have f11:=hB8.free (i*13+11)
    have f12:=hB8.free (i*13+12)
    rw [if_pos (by rfl)]
    go_simp
    refine hK17.out _ _ (fun h=>absurd (h.symm.trans (by kernel_rfl:_=true)) (by decide)) ?_
    try simp only [Act.put,List.setIfInBounds_toArray,List.set_cons_zero,List.set_cons_succ]
    clear d0 d1 d2 d3 d4 d5 d6 d7 d8 d9 d10 d11 d12 f0 f1 f2 f3 f4 f5 f6 f7 f8 f9 f10 f11 f12 hK17
    obtain ⟨W1,hW1⟩:∃ W1,W1=putAll w8 b (i*13) (E3 dk Ak1 nk1 Ak2 nk2 Ak3 nk3 Ak4 nk4 Ak5 nk5):=⟨_,rfl⟩
    change wpU _ _ _ _ _ _ _ _ _ (putAll w8 b (i*13) (E3 dk Ak1 nk1 Ak2 nk2 Ak3 nk3 Ak4 nk4 Ak5 nk5))
    rw [←hW1]
    obtain ⟨cur1,hB1,hsz1⟩:∃ cur1,Blk W1 b cur1∧cur1.size=cur.size:=⟨_,by rw [hW1];exact hB8.putAll,Ho _ _ _⟩
    have hG1:w8.grownBy W1 (some b):=by rw [hW1];exact Ht
    have HW1:=Ac hW1
    clear hW1
    have hz9:=Aj hG1 hS0.1 (by simp;omega)
    clear hS0
    refine Eo 4 (by kernel_rfl) rfl (fun K4 hK4=>?_)
    rw [if_pos (by rfl)]
    go_simp
    refine hK4.out _ _ (fun h=>absurd (h.symm.trans (by kernel_rfl:_=true)) (by decide)) ?_
    try simp only [Act.put,List.setIfInBounds_toArray,List.set_cons_zero,List.set_cons_succ]
    refine Eo 18 (by kernel_rfl) rfl (fun K18 hK18=>?_)
    rw [if_pos (by rfl)]
    go_simp
    refine hK18.out _ _ (fun h=>absurd (h.symm.trans (by kernel_rfl:_=true)) (by decide)) ?_
    try simp only [Act.put,List.setIfInBounds_toArray,List.set_cons_zero,List.set_cons_succ]
    refine Eo 19 (by kernel_rfl) rfl (fun K19 hK19=>?_)
    obtain ⟨x0,x1,x2,x3,x4,x5,x6,x7,x8,x9,x10,x11,x12,d0,d1,d2,d3,d4,d5,d6,d7,d8,d9,d10,d11,d12⟩:=hB1.room13 (o:=k*13) (by omega)
    have f0:=hB1.free (k*13)
    have f1:=hB1.free (k*13+1)
    have f2:=hB1.free (k*13+2)
    have f3:=hB1.free (k*13+3)
    have f4:=hB1.free (k*13+4)
    have f5:=hB1.free (k*13+5)
    have f6:=hB1.free (k*13+6)
    have f7:=hB1.free (k*13+7)
    have f8:=hB1.free (k*13+8)
    have f9:=hB1.free (k*13+9)
    have f10:=hB1.free (k*13+10)
    have f11:=hB1.free (k*13+11)
    have f12:=hB1.free (k*13+12)
    rw [if_pos (by rfl)]
    go_simp
    refine hK19.out _ _ (fun h=>absurd (h.symm.trans (by kernel_rfl:_=true)) (by decide)) ?_
    clear hK19
    refine Oo (by kernel_rfl) ?_
    clear d0 d1 d2 d3 d4 d5 d6 d7 d8 d9 d10 d11 d12 f0 f1 f2 f3 f4 f5 f6 f7 f8 f9 f10 f11 f12
    obtain ⟨W2,hW2⟩:∃ W2,W2=putAll W1 b (k*13) (E3 di Ai1 ni1 Ai2 ni2 Ai3 ni3 Ai4 ni4 Ai5 ni5):=⟨_,rfl⟩
    change (Exit.then _ _) Exit.normal _ (putAll W1 b (k*13) (E3 di Ai1 ni1 Ai2 ni2 Ai3 ni3 Ai4 ni4 Ai5 ni5))
    rw [←hW2]
    have hfin:=HFIN.out
    rw [←HW1.out,←hW2] at hfin
    clear hW2
    try simp only [Exit.inBlock,Exit.then]
    go_wp2_with fail
    go_meet
    exact ⟨rfl,Ac ⟨hfin.1,Ae (C0 HDR.out) hfin.2⟩⟩
  case rest =>
   obtain ⟨rfl,hh⟩:=hcut
   obtain ⟨hdr,hg8⟩:=hh.out
   have hbw:wk.heap.size≤b:=Nat.le_trans HBASE.out.1 HBASE.out.2
   have hzb:z≠b:=by have:=HBC.out.lt;have:=HZE.out;omega
   have HZ:=Ac (HZ.out.other hg8 hzb)
   have HGB:Hid (wa.grownBy wc none):=Ac (Aw (Ae HG6.out HG7.out) hg8 (Nat.le_trans HG4.out.size hbw))
   have hrow:Row wc (.slice B1 f.nodes.length k1) (strs f.nodes):=(HROW.out.more HG7.out).apart hg8 (fun e=>by
    have:=(HLOW.out b e).2
    have:=HBASE.out.2
    omega)
   have hgf:FlatAt wc (Cs f i k) B1 k1 (some ⟨b,0,none⟩) k2:=by
    refine ⟨hrow,HF.out.nsz,?_,HF.out.s1,HF.out.s2,HF.out.me,HF.out.n1,?_⟩
    ·rw [show (Cs f i k).devs=Ec f.devs i k from rfl,Bx];exact hdr
    ·rw [show (Cs f i k).devs=Ec f.devs i k from rfl,Bx];omega
   have HGF:=Ac hgf
   obtain ⟨oe,ov⟩:=Xc HSW.out HE.out
   have HOE:=Ac oe
   have HOV:=Ac ov
   clear hh hdr hg8 hrow hgf oe ov HSWM HQI HQK HBC HROW HLOW
   obtain ⟨p0,p1,p2,p3,p4⟩:=HFB.out.more HGB.out
   have hqb:=HQB.out.more HGB.out
   have q0:=hqb.cell 0
   have q1:=hqb.cell 1
   have q2:=hqb.cell 2
   have q3:=hqb.cell 3
   have q4:=hqb.cell 4
   simp only [List.getElem?_toArray,List.getElem?_cons_zero,List.getElem?_cons_succ] at q0 q1 q2 q3 q4
   clear hqb
   go_wp2_with fail
   have hC:=Iu wc f _ _ _ _ (HF.out.more HGB.out) (HG.out.more HGB.out) mode method step i1 i2 Aq cq segs (HSR.out.more HGB.out)
   refine hC.mono ?_
   rintro e w9 ⟨A3,c3,rfl,hs9,hg9⟩
   clear hC p0 p1 p2 p3 p4 q0 q1 q2 q3 q4
   obtain ⟨E1,hE1⟩:∃ E1,bldE f mode method step segs=E1:=⟨_,rfl⟩
   obtain ⟨V1,hV1⟩:∃ V1,bldV f mode method step segs=V1:=⟨_,rfl⟩
   rw [hE1,hV1]
   rw [hV1] at hs9
   have HE1:=Ac hE1
   have HV1:=Ac hV1
   have HG9:=Ac (Ae HGB.out hg9)
   have HLO:Hid (wa.heap.size≤wc.heap.size):=Ac HGB.out.size
   have HSY1:=Ac hs9
   have HZ:=Ac (HZ.out.more hg9)
   have HGF:=Ac (HGF.out.more hg9)
   clear hE1 hV1 hs9 hg9
   go_upto_region 14 with (fail)
   have HT:=Ac (Blk.new w9 #[.slice A3 V1.length c3] 38)
   have ga:=Af w9 (.cells #[.slice A3 V1.length c3] 38) none
   have HZ:=Ac (HZ.out.more ga)
   have HGF:=Ac (HGF.out.more ga)
   have HG10:=Ac (Ae HG9.out ga)
   have HW10:Hid (w9.grownBy (w9.alloc (.cells #[.slice A3 V1.length c3] 38)) none):=Ac ga
   clear ga
   generalize w9.alloc (.cells #[.slice A3 V1.length c3] 38)=w10 at *
   obtain ⟨z1,hz1⟩:∃ z1,w9.heap.size=z1:=⟨_,rfl⟩
   rw [hz1] at HT ⊢
   have HZ1:=Ac hz1
   have HZL1:Hid (z1<w10.heap.size):=Ac HT.out.lt
   clear hz1
   have m0:=HZ.out.cell 0
   have m1:=HZ.out.cell 1
   have m2:=HZ.out.cell 2
   have m3:=HZ.out.cell 3
   have m4:=HZ.out.cell 4
   have hqb:=HQB.out.more HG10.out
   have q0:=hqb.cell 0
   have q1:=hqb.cell 1
   have q2:=hqb.cell 2
   have q3:=hqb.cell 3
   have q4:=hqb.cell 4
   simp only [List.getElem?_toArray,List.getElem?_cons_zero,List.getElem?_cons_succ] at q0 q1 q2 q3 q4 m0 m1 m2 m3 m4
   clear hqb
   go_wp2_with fail
   have hC:=Iu w10 (Cs f i k) _ _ _ _ HGF.out (HG.out.more HG10.out) mode method step i1 i2 Aq cq segs (HSR.out.more HG10.out)
   rw [show (Cs f i k).devs.length=f.devs.length from Bx _ _ _,HOE.out,HE1.out] at hC
   have hlen:(bldV (Cs f i k) mode method step segs).length=V1.length:=by
    have:=congrArg List.length HOV.out
    rw [List.length_map,List.length_map,HV1.out] at this
    exact this
   obtain ⟨V2,hV2⟩:∃ V2,bldV (Cs f i k) mode method step segs=V2:=⟨_,rfl⟩
   have HEQ:Hid (V2.map RowP.less=V1.map RowP.less):=Ac (by rw [←hV2,←HV1.out];exact HOV.out)
   rw [hV2] at hC hlen
   refine hC.mono ?_
   rintro e w11 ⟨A4,c4,rfl,hs11,hg11⟩
   rw [hlen] at hs11 ⊢
   have HSY2:=Ac hs11
   have HLEN:=Ac hlen
   have HG11:=Ac (Ae HG10.out hg11)
   have HT:=Ac (HT.out.more hg11)
   have HW11:=Ac hg11
   clear hC hV2 hlen hs11 hg11 m0 m1 m2 m3 m4 q0 q1 q2 q3 q4
   go_upto_region 15 with (fail)
   have HU2:=Ac (Blk.new w11 #[.slice A4 V1.length c4] 38)
   have ga:=Af w11 (.cells #[.slice A4 V1.length c4] 38) none
   have HT:=Ac (HT.out.more ga)
   have HG12:=Ac (Ae HG11.out ga)
   have HSY1:=Ac (⟨wc.heap.size,Nat.le_refl _,HSY1.out,Ae HW10.out (Ae HW11.out ga)⟩:∃ lo,wc.heap.size≤lo∧SysRowW w9 lo (.slice A3 V1.length c3) V1∧w9.grownBy (w11.alloc (.cells #[.slice A4 V1.length c4] 38)) none)
   have HW12:Hid (w11.grownBy (w11.alloc (.cells #[.slice A4 V1.length c4] 38)) none):=Ac ga
   clear ga
   generalize w11.alloc (.cells #[.slice A4 V1.length c4] 38)=w12 at *
   obtain ⟨z2,hz2⟩:∃ z2,w11.heap.size=z2:=⟨_,rfl⟩
   rw [hz2] at HU2 ⊢
   have HZ2:=Ac hz2
   clear hz2
   have n0:=HT.out.cell 0
   have n1:=HU2.out.cell 0
   simp only [List.getElem?_toArray,List.getElem?_cons_zero,List.getElem?_cons_succ] at n0 n1
   have te:(E1 != E1)=false:=by simp
   have tl:((V1.length:Int) != (V1.length:Int))=false:=by simp
   obtain ⟨lo,hlo,hsy1,hw12⟩:=HSY1.out
   by_cases hN:V1.length=0
   ·have hv1:V1=[]:=List.eq_nil_of_length_eq_zero hN
    have hv2:V2=V1:=by rw [hv1];exact List.eq_nil_of_length_eq_zero (by rw [HLEN.out];exact hN)
    subst hv2
    have HR1:=Ac (hsy1.row.more hw12)
    have HR2:=Ac (HSY2.out.row.more HW12.out)
    have t0:¬ (0:Int)<(V2.length:Int):=by omega
    clear hlo hsy1 hw12 hN hv1
    go_wp2_with fail
    go_loopw [148] (fun iv wr=>iv=.int .i64 0∧wr=w12) (fun _ _=>0)
    case atStart=>exact ⟨rfl,rfl⟩
    case round =>
     obtain ⟨rfl,rfl⟩:=hrel
     go_wp2_with fail
     refine (Iv _ _ _ V2 HR1.out HR2.out).mono ?_
     rintro e w14 ⟨rfl,hg14⟩
     go_wp2_with fail
     go_ret
     exact ⟨rfl,Ae HGW.out (Ae HG12.out hg14)⟩
   ·obtain ⟨b1,d1,e1,hb1,hn1,hn1',hf1⟩:=hsy1.rows (by omega)
    injection e1 with e1 _ e1'
    subst e1 e1'
    obtain ⟨b2,d2,e2,hb2,hn2,hn2',hf2⟩:=HSY2.out.rows (by rw [HLEN.out];omega)
    injection e2 with e2 e2n e2'
    subst e2 e2'
    clear e2n
    rw [HLEN.out] at hf2 hn2
    have hb1l:=hf1.lt
    have hb2l:=hf2.lt
    have hs1:=HW10.out.size
    have hs2:=HW11.out.size
    have hz1:=HZ1.out
    have hz2:=HZ2.out
    have hzl:=HZL1.out
    have hlo2:=HLO.out
    have hb12:b1≠b2:=by omega
    have hx1:z1≠b1:=by omega
    have hx2:z1≠b2:=by omega
    have hx3:z2≠b1:=by omega
    have hx4:z2≠b2:=by omega
    have HBL:Hid (wa.heap.size≤b1∧wa.heap.size≤b2):=Ac (by have:=HG10.out.size;omega)
    have HNE:Hid (b1≠b2∧z1≠b1∧z1≠b2∧z2≠b1∧z2≠b2):=Ac ⟨hb12,hx1,hx2,hx3,hx4⟩
    have HF1:=Ac (hf1.step hw12 (by simp) (StayR.none hw12))
    have HF2:=Ac (hf2.step HW12.out (by simp) (StayR.none HW12.out))
    have HNN:Hid (0<V1.length∧V1.length≤c3∧c3≤9223372036854775807∧V1.length≤c4∧c4≤9223372036854775807):=Ac ⟨by omega,hn1,hn1',hn2,hn2'⟩
    have hvl:V1.length≤9223372036854775807:=by omega
    have HN0:=Ac n0
    have HN1:=Ac n1
    clear hlo hsy1 hw12 hf1 hf2 hb1 hb2 hn1 hn1' hn2 hn2' hb1l hb2l hs1 hs2 hz1 hz2 hzl hlo2 hb12 hx1 hx2 hx3 hx4
    go_wp2_with fail
    go_loopw [148] (fun iv wr=>∃ n:Nat,n≤V1.length∧iv=.int .i64 n∧wa.grownBy wr none∧Hid (RowsF wr b1 V1.length (strk V1 n)∧RowsF wr b2 V1.length (strk V2 n)∧wr.cell? ⟨z1,0,none⟩=some (.slice (some ⟨b1,0,none⟩) V1.length c3)∧wr.cell? ⟨z2,0,none⟩=some (.slice (some ⟨b2,0,none⟩) V1.length c4))) (fun iv _=>(V1.length-intOf iv).toNat)
    case atStart=>exact ⟨0,by omega,rfl,HG12.out,Ac ⟨HF1.out.ext fun i _=>by simp [strk],HF2.out.ext fun i _=>by simp [strk],HN0.out,HN1.out⟩⟩
    case round =>
     obtain ⟨n,hn,rfl,hg,hh⟩:=hrel
     obtain ⟨r1,r2,y1,y2⟩:=hh.out
     by_cases hlt:n<V1.length
     ·obtain ⟨cs1,k1',_,_,ks1,_⟩:=id r1
      obtain ⟨cs2,k2',_,_,ks2,_⟩:=id r2
      have hS0:wr.drew.cell? ⟨z1,0,none⟩=some (.slice (some ⟨b1,0,none⟩) V1.length c3)∧wr.drew.cell? ⟨z2,0,none⟩=some (.slice (some ⟨b2,0,none⟩) V1.length c4):=⟨Aj (Ai wr none) y1 (by simp),Aj (Ai wr none) y2 (by simp)⟩
      have hk1:=k1'.more (Ai wr none)
      have hk2:=k2'.more (Ai wr none)
      have HR1:=Ac (r1.step (Ai wr none) (by simp) (StayR.none (Ai wr none)))
      have HR2:=Ac (r2.step (Ai wr none) (by simp) (StayR.none (Ai wr none)))
      have HGD:=Ac (Ae hg (Ai wr none))
      have HLT:=Ac hlt
      have l1:(n:Int)<(V1.length:Int):=by omega
      have l0:(0:Int)≤(n:Int):=by omega
      obtain ⟨u1,x1⟩:=hk1.room (o:=n*7+4) (by omega)
      obtain ⟨u2,x2⟩:=hk2.room (o:=n*7+4) (by omega)
      have f1:=hk1.free (n*7+4)
      have f2:=hk2.free (n*7+4)
      clear hh r1 r2 k1' k2' ks1 ks2 hk1 hk2 hg
      go_wp2_with fail
      refine Sv (S:=fun W=>W.cell? ⟨z1,0,none⟩=some (.slice (some ⟨b1,0,none⟩) V1.length c3)∧W.cell? ⟨z2,0,none⟩=some (.slice (some ⟨b2,0,none⟩) V1.length c4)) (z:=11) (by kernel_rfl) ?_
      generalize wr.drew=w13 at *
      clear y1 y2
      refine C8 0 [11] (v:=?_) rfl (by kernel_rfl) (by kernel_rfl) (by kernel_rfl) (fun _ _ _ h=>h) (by decide) (by kernel_rfl) (by kernel_rfl) (by rfl) ?_ (by assumption) ?_
      rotate_left
      ·intro W hSw;(try dsimp only at hSw);obtain ⟨hSw1,hSw2⟩:=hSw;go_simp;(try with_reducible rfl)
      try simp only [Act.put,List.setIfInBounds_toArray,List.set_cons_zero,List.set_cons_succ]
      refine C8 1 [11] (v:=?_) rfl (by kernel_rfl) (by kernel_rfl) (by kernel_rfl) (fun _ _ _ h=>h) (by decide) (by kernel_rfl) (by kernel_rfl) (by rfl) ?_ (by assumption) ?_
      rotate_left
      ·intro W hSw;(try dsimp only at hSw);obtain ⟨hSw1,hSw2⟩:=hSw;go_simp;(try with_reducible rfl)
      try simp only [Act.put,List.setIfInBounds_toArray,List.set_cons_zero,List.set_cons_succ]
      refine C8 2 [11] (v:=?_) rfl (by kernel_rfl) (by kernel_rfl) (by kernel_rfl) (fun _ _ _ h=>h) (by decide) (by kernel_rfl) (by kernel_rfl) (by rfl) ?_ (by assumption) ?_
      rotate_left
      ·intro W hSw;(try dsimp only at hSw);obtain ⟨hSw1,hSw2⟩:=hSw;go_simp;(try with_reducible rfl)
      try simp only [Act.put,List.setIfInBounds_toArray,List.set_cons_zero,List.set_cons_succ]
      refine C8 3 [11] (v:=?_) rfl (by kernel_rfl) (by kernel_rfl) (by kernel_rfl) (fun _ _ _ h=>h) (by decide) (by kernel_rfl) (by kernel_rfl) (by rfl) ?_ (by assumption) ?_
      rotate_left
      ·intro W hSw;(try dsimp only at hSw);obtain ⟨hSw1,hSw2⟩:=hSw;go_simp;(try with_reducible rfl)
      try simp only [Act.put,List.setIfInBounds_toArray,List.set_cons_zero,List.set_cons_succ]
      refine C8 4 [11] (v:=?_) rfl (by kernel_rfl) (by kernel_rfl) (by kernel_rfl) (fun _ _ _ h=>h) (by decide) (by kernel_rfl) (by kernel_rfl) (by rfl) ?_ (by assumption) ?_
      rotate_left
      ·intro W hSw;(try dsimp only at hSw);obtain ⟨hSw1,hSw2⟩:=hSw;go_simp;(try with_reducible rfl)
      try simp only [Act.put,List.setIfInBounds_toArray,List.set_cons_zero,List.set_cons_succ]
      refine C8 5 [11] (v:=?_) rfl (by kernel_rfl) (by kernel_rfl) (by kernel_rfl) (fun _ _ _ h=>h) (by decide) (by kernel_rfl) (by kernel_rfl) (by rfl) ?_ (by assumption) ?_
      rotate_left
      ·intro W hSw;(try dsimp only at hSw);obtain ⟨hSw1,hSw2⟩:=hSw;go_simp;(try with_reducible rfl)
      try simp only [Act.put,List.setIfInBounds_toArray,List.set_cons_zero,List.set_cons_succ]
      refine C8 6 [11] (v:=?_) rfl (by kernel_rfl) (by kernel_rfl) (by kernel_rfl) (fun _ _ _ h=>h) (by decide) (by kernel_rfl) (by kernel_rfl) (by rfl) ?_ (by assumption) ?_
      rotate_left
      ·intro W hSw;(try dsimp only at hSw);obtain ⟨hSw1,hSw2⟩:=hSw;go_simp;(try with_reducible rfl)
      try simp only [Act.put,List.setIfInBounds_toArray,List.set_cons_zero,List.set_cons_succ]
      refine C8 7 [11] (v:=?_) rfl (by kernel_rfl) (by kernel_rfl) (by kernel_rfl) (fun _ _ _ h=>h) (by decide) (by kernel_rfl) (by kernel_rfl) (by rfl) ?_ (by assumption) ?_
      rotate_left
      ·intro W hSw;(try dsimp only at hSw);obtain ⟨hSw1,hSw2⟩:=hSw;go_simp;(try with_reducible rfl)
      try simp only [Act.put,List.setIfInBounds_toArray,List.set_cons_zero,List.set_cons_succ]
      obtain ⟨ne1,ne2,ne3,ne4,ne5⟩:=HNE.out
      refine Eo 8 (by kernel_rfl) rfl (fun K8 hK8=>?_)
      rw [if_pos (by rfl)]
      go_simp
      have hS1:(w13.setCell ⟨b1,n*7+4,none⟩ (.slice none 0 0)).cell? ⟨z1,0,none⟩=some (.slice (some ⟨b1,0,none⟩) V1.length c3)∧(w13.setCell ⟨b1,n*7+4,none⟩ (.slice none 0 0)).cell? ⟨z2,0,none⟩=some (.slice (some ⟨b2,0,none⟩) V1.length c4):=⟨Aj (Au _ _ _ _) hS0.1 (by simpa using ne2),Aj (Au _ _ _ _) hS0.2 (by simpa using ne4)⟩
      refine hK8.out _ _ (fun _=>hS1) ?_
      try simp only [Act.put,List.setIfInBounds_toArray,List.set_cons_zero,List.set_cons_succ]
      refine Eo 9 (by kernel_rfl) rfl (fun K9 hK9=>?_)
      rw [if_pos (by rfl)]
      go_simp
      refine hK9.out _ _ (fun _=>hS1) ?_
      try simp only [Act.put,List.setIfInBounds_toArray,List.set_cons_zero,List.set_cons_succ]
      refine Eo 10 (by kernel_rfl) rfl (fun K10 hK10=>?_)
      rw [if_pos (by rfl)]
      go_simp
      refine hK10.out _ _ (fun _=>hS1) ?_
      try simp only [Act.put,List.setIfInBounds_toArray,List.set_cons_zero,List.set_cons_succ]
      refine Eo 11 (by kernel_rfl) rfl (fun K11 hK11=>?_)
      rw [if_pos (by rfl)]
      go_simp
      refine hK11.out _ _ (fun h=>absurd (h.symm.trans (by kernel_rfl:_=true)) (by decide)) ?_
      refine Oo (by kernel_rfl) ?_
      have hsf1:=HR1.out.soft (by omega)
      have q1:=HR1.out.put HLT.out
      have q2:=HR2.out.step (Au w13 b1 (n*7+4) (.slice none 0 0)) (by simpa using ne1) (StayR.row (Au w13 b1 (n*7+4) (.slice none 0 0)) hsf1)
      have hsf2:=q2.soft (by omega)
      have q1':=q1.step (Au _ b2 (n*7+4) (.slice none 0 0)) (by simpa using fun e=>ne1 e.symm) (StayR.row (Au _ b2 (n*7+4) (.slice none 0 0)) hsf2)
      have q2':=q2.put HLT.out
      have g14:=Aw (Aw HGD.out (Au w13 b1 (n*7+4) (.slice none 0 0)) HBL.out.1) (Au _ b2 (n*7+4) (.slice none 0 0)) HBL.out.2
      have hS2:((w13.setCell ⟨b1,n*7+4,none⟩ (.slice none 0 0)).setCell ⟨b2,n*7+4,none⟩ (.slice none 0 0)).cell? ⟨z1,0,none⟩=some (.slice (some ⟨b1,0,none⟩) V1.length c3)∧((w13.setCell ⟨b1,n*7+4,none⟩ (.slice none 0 0)).setCell ⟨b2,n*7+4,none⟩ (.slice none 0 0)).cell? ⟨z2,0,none⟩=some (.slice (some ⟨b2,0,none⟩) V1.length c4):=⟨Aj (Au _ _ _ _) hS1.1 (by simpa using ne3),Aj (Au _ _ _ _) hS1.2 (by simpa using ne5)⟩
      have HFI:=Ac (And.intro (q1'.ext fun i _=>Tk V1 n i) (And.intro (q2'.ext fun i _=>Tk V2 n i) hS2))
      have HG14:=Ac g14
      clear hsf1 q1 q2 hsf2 q1' q2' g14 hS2 hS1 hS0 hK8 hK9 hK10 hK11 x1 x2 f1 f2 ne1 ne2 ne3 ne4 ne5
      generalize ((w13.setCell ⟨b1,n*7+4,none⟩ (.slice none 0 0)).setCell ⟨b2,n*7+4,none⟩ (.slice none 0 0))=w14 at *
      try simp only [Exit.inBlock,Exit.then]
      go_wp2_with fail
      exact ⟨⟨n+1,by omega,by go_num,HG14.out,HFI⟩,by simp [intOf];omega⟩
     ·obtain rfl:n=V1.length:=by omega
      have hq1:=r1.sys HNN.out.2.1 HNN.out.2.2.1
      have hq2:=r2.sys HNN.out.2.2.2.1 HNN.out.2.2.2.2
      rw [Tj V1 _ rfl] at hq1
      rw [Tj V2 _ HLEN.out.symm,HEQ.out] at hq2
      have HQ1:=Ac hq1
      have HQ2:=Ac hq2
      have HGR:=Ac (Ae HGW.out hg)
      clear hq1 hq2 r1 r2 hg
      go_wp2_with fail
      have hC:=Iv wr _ _ (V1.map RowP.less) HQ1.out HQ2.out
      refine hC.mono ?_
      rintro e w14 ⟨rfl,hg14⟩
      go_wp2_with fail
      go_ret
      exact ⟨rfl,Ae HGR.out hg14⟩
end
end Go.Proofs.YtmfmfpmkgmkgiaaGreatDoor
