/- SrcH. -/
import Derived.Test.YtckbiimikeiejaaGreatDoorMbn
import Derived.Test.YtckbiimikeiejaaGreatDoorMbm
import Derived.Test.YtckbiimikeiejaaGreatDoorMbf
import Derived.Test.YtckbiimikeiejaaGreatDoorMbh
import Derived.Test.YtckbiimikeiejaaGreatDoorMan
import Derived.BigQuiet
set_option linter.unusedVariables false
set_option linter.unusedSimpArgs false
set_option maxHeartbeats 40000000
namespace Go.Proofs.YtckbiimikeiejaaGreatDoor
section
open Go.RowKit Go.Maps
theorem A40 (kind:Int) (vals:List (Int × Int)) (s:List Int) (step:Int):I64 (atV kind vals s step):=by
 unfold atV Y0
 repeat' split
 all_goals first
  | (unfold I64;omega)
  | (rename_i h;unfold OnG at h;unfold I64;omega)
theorem A2l (ds:List DevP) (step:Int):∀ t,∀ x∈Bv ds step t,I64 x
 | 0,x,h=>by simp [Bv] at h
 | t+1,x,h=>by
  rw [Bv] at h
  rcases List.mem_append.1 h with h | h
  ·exact A2l ds step t x h
  ·rw [List.mem_singleton] at h
   subst h
   split
   ·exact A40 _ _ _ _
   ·unfold I64;omega
theorem A3n (f:Bf) (step:Int):∀ x∈X1 f step,I64 x:=by
 unfold X1
 split
 ·exact A2l _ _ _
 ·intro x h;simp at h
set_option maxRecDepth 100000 in
theorem A2c (w:World) (f:Bf) (A1:Option Addr) (c1:Nat) (A2:Option Addr) (c2:Nat) (hf:FlatAt w f A1 c1 A2 c2) (hbk:∀ d∈f.devs,d.mname.size≤4611686018427387904) (step:Int) :
  Calls Tryz.prog 31 #[.agg #[.slice A1 f.nodes.length c1,.slice A2 f.devs.length c2,.int .i64 f.step.1,.int .i64 f.step.2,.int .i64 f.method],.int .i64 step] w fun e w'=>∃ v,e=.returned (.tuple #[v,.int .i64 (K9 f step)])∧Row w' v (ints (X1 f step))∧w.grownBy w' none:=by
 have gw:=Af w (.cells #[.slice A1 f.nodes.length c1,.slice A2 f.devs.length c2,.int .i64 f.step.1,.int .i64 f.step.2,.int .i64 f.method] 27) none
 have hB:=FlatBox.of (Blk.new w #[.slice A1 f.nodes.length c1,.slice A2 f.devs.length c2,.int .i64 f.step.1,.int .i64 f.step.2,.int .i64 f.method] 27)
 have HB:=Ac hB
 have HF:=Ac hf
 have hn2:=hf.n2
 have HC:=Ac (Rf (w.alloc (.cells #[.slice A1 f.nodes.length c1,.slice A2 f.devs.length c2,.int .i64 f.step.1,.int .i64 f.step.2,.int .i64 f.method] 27)) f A1 c1 A2 c2 (hf.more gw) hbk)
 obtain ⟨p0,p1,p2,p3,p4⟩:=hB
 have HGW:=Ac gw
 clear hf hbk gw
 obtain ⟨E,hE⟩:∃ E,Cq f=E:=⟨_,rfl⟩
 rw [hE] at HC
 go_enter Tryz.func31,Tryz.ntmps31
 go_wp2_with fail
 generalize w.alloc (.cells #[.slice A1 f.nodes.length c1,.slice A2 f.devs.length c2,.int .i64 f.step.1,.int .i64 f.step.2,.int .i64 f.method] 27)=wa at *
 generalize hs:w.heap.size=s at *
 clear hs
 refine HC.out.mono ?_
 rintro e w1 ⟨rfl,hg1⟩
 have HG1:=Ac (Ae HGW.out hg1)
 have HB:=Ac (HB.out.more hg1)
 clear hg1 HC HGW p0 p1 p2 p3 p4
 by_cases h0:E=0
 rotate_left
 ·have HN:=Ac (A3h (step:=step) (by rw [hE];exact h0))
  have HEE:=Ac hE
  have t0:(E != 0)=true:=by rw [bne_iff_ne];exact h0
  clear hE h0
  go_wp2_with fail
  go_ret2
  refine ⟨.slice none 0 0,by rw [HN.out.1,HEE.out];rfl,?_,HG1.out⟩
  rw [HN.out.2]
  exact X5 _
 subst h0
 have HE:=Ac hE
 clear hE
 go_wp2_with fail
 go_loopw [7,8] (fun v i wr=>∃ k:Nat,k≤f.devs.length∧i=.int .i64 k∧wr.ownsRow w1.heap.size 2 1 v k (ints (Bv f.devs step k))∧w1.grownBy wr none∧Hid (∀ j,j<k→K8 f.devs step j)) (fun _ i _=>(f.devs.length-intOf i).toNat)
 case atStart=>exact ⟨0,by omega,rfl,World.ownsRow_nil _ _ _ _,Al _ _,Ac (fun j hj=>by omega)⟩
 case round =>
  obtain ⟨k,hk,rfl,hown,hg,hok⟩:=hrel
  have hbl:=V1 f.devs step k
  have p1:=(HB.out.more hg).c1
  by_cases hlt:k<f.devs.length
  ·obtain ⟨b,o,An,cn,Av,cv,As,cs,Ag,cg,Am,cm,rfl,hat,hc⟩:=(HF.out.more (Ae HG1.out hg)).devs.at2 hlt
   have hbs:=A2g f.devs step k
   have hso:K8 f.devs step k↔(Nq (f.devs.getD k dev0).kind=true→atE (f.devs.getD k dev0).wkind (f.devs.getD k dev0).wvals (f.devs.getD k dev0).wsteps step=0):=Iff.rfl
   generalize f.devs.getD k dev0=d at *
   obtain ⟨q0,q1,q2,q3,q4,q5,q6,q7,q8,q9,q10,q11,q12⟩:=hc
   have hki:(k:Int)<(f.devs.length:Int):=by omega
   clear q1 q2 q3 q4 q5 q9 q10 q11 q12
   by_cases hb:d.kind=118∨d.kind=105
   ·have hbb:Nq d.kind=true:=by unfold Nq;rcases hb with h | h<;>simp [h]
    rw [if_pos hbb] at hbs
    have hwc:=(A39 wr d.wkind (.slice Av d.wvals.length cv) (.slice As d.wsteps.length cs) d.wvals d.wsteps step hat.vals hat.steps)
    obtain ⟨E,hE⟩:∃ E,atE d.wkind d.wvals d.wsteps step=E:=⟨_,rfl⟩
    rw [hE] at hwc hso
    have HWC:=Ac hwc
    clear hwc hE
    generalize atV d.wkind d.wvals d.wsteps step=V at *
    have HBS:=Ac hbs
    have HGA:=Ac hg
    have HOW:=Ac hown
    have HLT:=Ac hlt
    have HSO:=Ac (hso.trans ⟨fun h=>h hbb,fun h _=>h⟩)
    have hkk:(d.kind==118)=true∨((d.kind==118)=false∧(d.kind==105)=true):=by
     simp only [beq_iff_eq,beq_eq_false_iff_ne];omega
    clear hbs hb hbb hat hg hown hso
    rcases hkk with t118 | ⟨t118,t105⟩
    all_goals
     go_wp2_with fail
     refine HWC.out.mono ?_
     rintro e w3 ⟨rfl,hg3⟩
     have hown2:=Xd HOW.out hg3
     have HGC:=Ac (Ae HGA.out hg3)
     have hs3:=HGC.out.size
     have HO2:=Ac hown2
     clear hg3 q0 q6 q7 q8
     by_cases h0:E=0
     ·subst h0
      have HOK:Hid (∀ j,j<k+1→K8 f.devs step j):=Ac fun j hj=>by
       by_cases h:j=k
       ·subst h;exact HSO.out.2 rfl
       ·exact hok.out j (by omega)
      clear hok
      go_wp2_with (first
       | (at_builtin;refine Fp w1.heap.size rfl (.tmp 51) (.tmp 53) 59 2 (.int .i64 0) 1 8 rfl Tryz.underlying59 Pi rfl (by omega) (by omega) u7 k (ints (Bv f.devs step k)) #[.int .i64 V] (by rfl) hown2 (by rfl) rfl (by simp [Value.oneCell']) (by omega) (by omega) ?_;intro v1 w5 hown1 hg5 hat1)
       | fail)
      go_roundw
      case rel=>exact ⟨k+1,by omega,by go_num,by rw [HBS.out,F4];exact hown1,Ep HGC.out hg5 (D4 HO2.out),HOK.out⟩
      case measure=>simp [intOf];omega
     ·have HN:=Ac (A3v HE.out HLT.out (fun h=>h0 (HSO.out.1 h)))
      have t0:(E != 0)=true:=by rw [bne_iff_ne];exact h0
      clear h0 hok
      go_wp2_with fail
      go_ret2
      refine ⟨.slice none 0 0,by rw [HN.out.1];rfl,?_,Ae HG1.out HGC.out⟩
      rw [HN.out.2]
      exact X5 _
   ·have hbb:Nq d.kind=false:=by unfold Nq;simp;omega
    rw [if_neg (by rw [hbb];simp)] at hbs
    have HBS:=Ac hbs
    have HOK:Hid (∀ j,j<k+1→K8 f.devs step j):=Ac fun j hj=>by
     by_cases h:j=k
     ·subst h;exact hso.2 fun h=>by rw [hbb] at h;cases h
     ·exact hok.out j (by omega)
    have t118:(d.kind==118)=false:=by rw [beq_eq_false_iff_ne];omega
    have t105:(d.kind==105)=false:=by rw [beq_eq_false_iff_ne];omega
    clear hbs hb hbb hat hso hok
    have HGC:=Ac hg
    have hown2:=hown
    have HO2:=Ac hown2
    have hs3:=hg.size
    go_wp2_with (first
     | (at_builtin;refine Fp w1.heap.size rfl (.tmp 51) (.tmp 53) 59 2 (.int .i64 0) 1 8 rfl Tryz.underlying59 Pi rfl (by omega) (by omega) u7 k (ints (Bv f.devs step k)) #[.int .i64 0] (by rfl) hown2 (by rfl) rfl (by simp [Value.oneCell']) (by omega) (by omega) ?_;intro v1 w5 hown1 hg5 hat1)
     | fail)
    go_roundw
    case rel=>exact ⟨k+1,by omega,by go_num,by rw [HBS.out,F4];exact hown1,Ep HGC.out hg5 (D4 HO2.out),HOK.out⟩
    case measure=>simp [intOf];omega
  ·obtain rfl:k=f.devs.length:=by omega
   have HR:=Ac (E5 hown)
   have HN:=Ac (A3u HE.out hok.out)
   clear hown hok
   go_wp2_with fail
   go_ret2
   refine ⟨_,by rw [HN.out.1];rfl,?_,Ae HG1.out hg⟩
   rw [HN.out.2]
   exact HR.out
set_option maxRecDepth 100000 in
theorem Y6 (w:World) (f:Bf) (A1:Option Addr) (c1:Nat) (A2:Option Addr) (c2:Nat) (hf:FlatAt w f A1 c1 A2 c2) (hG:GlobOK w) (hbk:∀ d∈f.devs,d.mname.size≤4611686018427387904) (step:Int) :
  Calls Tryz.prog 5 #[.agg #[.slice A1 f.nodes.length c1,.slice A2 f.devs.length c2,.int .i64 f.step.1,.int .i64 f.step.2,.int .i64 f.method],.int .i64 step] w fun e w'=>e=.returned (.bool true)∧w.grownBy w' none:=by
 have g1:=Af w (.cells #[.slice A1 f.nodes.length c1,.slice A2 f.devs.length c2,.int .i64 f.step.1,.int .i64 f.step.2,.int .i64 f.method] 27) none
 have HFB:=Ac (FlatBox.of (Blk.new w #[.slice A1 f.nodes.length c1,.slice A2 f.devs.length c2,.int .i64 f.step.1,.int .i64 f.step.2,.int .i64 f.method] 27))
 have HF:=Ac (hf.more g1)
 have HG:=Ac (hG.more g1)
 have HGW:=Ac g1
 have HBK:=Ac hbk
 clear hf hG g1 hbk
 go_enter Tryz.func5,Tryz.ntmps5
 go_wp2_with fail
 generalize w.alloc (.cells #[.slice A1 f.nodes.length c1,.slice A2 f.devs.length c2,.int .i64 f.step.1,.int .i64 f.step.2,.int .i64 f.method] 27)=wa at *
 generalize w.heap.size=s at *
 refine (Rw wa HG.out).mono ?_
 rintro e w1 ⟨rfl,hg1⟩
 obtain ⟨p0,p1,p2,p3,p4⟩:=HFB.out.more hg1
 go_wp2_with fail
 refine (Ry w1 f A1 c1 A2 c2 (HF.out.more hg1)).mono ?_
 rintro e w2 ⟨b,rfl,hg2⟩
 have HG2:=Ac (Ae hg1 hg2)
 clear p0 p1 p2 p3 p4 hg1 hg2
 cases b with
 | true =>
  go_wp2_with fail
  go_ret
  exact ⟨rfl,Ae HGW.out HG2.out⟩
 | false =>
  obtain ⟨p0,p1,p2,p3,p4⟩:=HFB.out.more HG2.out
  have hC:=A2i w2 f A1 c1 A2 c2 (HF.out.more HG2.out) (HG.out.more HG2.out) step
  have hD:=fun W (h:wa.grownBy W none)=>A2c W f A1 c1 A2 c2 (HF.out.more h) HBK.out step
  obtain ⟨E,hE⟩:∃ E,K9 f step=E:=⟨_,rfl⟩
  obtain ⟨V,hV⟩:∃ V,X1 f step=V:=⟨_,rfl⟩
  have HVI:=Ac (A3n f step)
  rw [hV] at HVI
  rw [hE,hV] at hC hD
  have HD:=Ac hD
  clear hD hE hV
  go_wp2_with fail
  refine hC.mono ?_
  rintro e w3 ⟨v3,rfl,hr3,hg3⟩
  have HR3:=Ac hr3
  have HG3:=Ac (Ae HG2.out hg3)
  clear hC hr3 hg3 p0 p1 p2 p3 p4
  obtain ⟨p0,p1,p2,p3,p4⟩:=HFB.out.more HG3.out
  go_wp2_with fail
  refine (HD.out w3 HG3.out).mono ?_
  rintro e w4 ⟨v4,rfl,hr4,hg4⟩
  have HR3:=Ac (HR3.out.more hg4)
  have HR4:=Ac hr4
  have HG4:=Ac (Ae HG3.out hg4)
  clear hr4 hg4 p0 p1 p2 p3 p4
  have t0:(E==E)=true:=by simp
  obtain ⟨A3,c3,rfl,_⟩:=id (HR3.out.introw HVI.out)
  obtain ⟨A4,c4,rfl,_⟩:=id (HR4.out.introw HVI.out)
  have HC:=Ac fun W (h:w4.grownBy W none)=>A2r W _ _ V ((HR3.out.more h).introw HVI.out) ((HR4.out.more h).introw HVI.out)
  generalize V.length=nv at *
  go_wp2_with fail
  refine (HC.out w4 (Al _ _)).mono ?_
  rintro e w5 ⟨rfl,hg5⟩
  go_wp2_with fail
  go_ret
  exact ⟨rfl,Ae HGW.out (Ae HG4.out hg5)⟩
end
end Go.Proofs.YtckbiimikeiejaaGreatDoor
