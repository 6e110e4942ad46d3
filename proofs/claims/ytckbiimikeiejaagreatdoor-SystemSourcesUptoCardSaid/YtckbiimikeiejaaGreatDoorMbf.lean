/- LawB LawD ChkB. -/
import Derived.Test.YtckbiimikeiejaaGreatDoorMam
import Derived.Test.YtckbiimikeiejaaGreatDoorMaz
import Derived.Test.YtckbiimikeiejaaGreatDoorMbe
import Derived.Test.YtckbiimikeiejaaGreatDoorMax
import Derived.Test.YtckbiimikeiejaaGreatDoorMai
set_option linter.unusedVariables false
set_option linter.unusedSimpArgs false
set_option maxHeartbeats 40000000
namespace Go.Proofs.YtckbiimikeiejaaGreatDoor
section
open Go.RowKit Go.Maps
theorem A22 (x:Int):I64 (wrap64 x):=by
 unfold I64 wrap64
 omega
end
section
open Go.RowKit Go.Maps
set_option maxRecDepth 100000 in
theorem Ry (w:World) (f:Bf) (A1:Option Addr) (c1:Nat) (A2:Option Addr) (c2:Nat) (hf:FlatAt w f A1 c1 A2 c2) :
  Calls Tryz.prog 14 #[.agg #[.slice A1 f.nodes.length c1,.slice A2 f.devs.length c2,.int .i64 f.step.1,.int .i64 f.step.2,.int .i64 f.method]] w fun e w'=>∃ b,e=.returned (.bool b)∧w.grownBy w' none:=by
 have gw:=Af w (.cells #[.slice A1 f.nodes.length c1,.slice A2 f.devs.length c2,.int .i64 f.step.1,.int .i64 f.step.2,.int .i64 f.method] 27) none
 have HFB:=FlatBox.of (Blk.new w #[.slice A1 f.nodes.length c1,.slice A2 f.devs.length c2,.int .i64 f.step.1,.int .i64 f.step.2,.int .i64 f.method] 27)
 have HF:=Ac (hf.more gw)
 have HGW:=Ac gw
 have hnl:f.nodes.length≤9223372036854775807:=by obtain ⟨A,c,e,h1,h2,_⟩:=hf.nodes;injection e with e1 e2 e3;omega
 have hdl:f.devs.length≤9223372036854775807:=by obtain ⟨A,c,e,h1,h2,_⟩:=hf.devs;injection e with e1 e2 e3;omega
 clear hf gw
 obtain ⟨p0,p1,p2,p3,p4⟩:=HFB
 go_enter Tryz.func14,Tryz.ntmps14
 go_wp2_with fail
 generalize w.alloc (.cells #[.slice A1 f.nodes.length c1,.slice A2 f.devs.length c2,.int .i64 f.step.1,.int .i64 f.step.2,.int .i64 f.method] 27)=wa at *
 generalize w.heap.size=s at *
 go_loopw [3,4] (fun zv i wr=>∃ (k:Nat) (z:Int),k≤f.devs.length∧i=.int .i64 k∧zv=.int .i64 z∧I64 z∧wa.grownBy wr none) (fun _ i _=>(f.devs.length-intOf i).toNat)
 case atStart=>exact ⟨0,f.nodes.length,by omega,rfl,rfl,⟨by omega,by omega⟩,Al _ _⟩
 case round =>
  obtain ⟨k,z,hk,rfl,rfl,hz,hg⟩:=hrel
  have p1:=Aj hg p1 (by simp)
  by_cases hlt:k<f.devs.length
  ·by_cases hz4:z<2000
   ·obtain ⟨b,o,An,cn,Av,cv,As,cs,Ag,cg,Am,cm,rfl,hat,hc⟩:=(HF.out.more hg).devs.at2 hlt
    generalize f.devs.getD k dev0=d at *
    obtain ⟨q0,q1,q2,q3,q4,q5,q6,q7,q8,q9,q10,q11,q12⟩:=hc
    have ga:=Af wr (.cells #[.int .u8 d.kind,.string d.name,.slice An d.nodes.length cn,.int .i64 d.ref,.int .i64 d.val.1,.int .i64 d.val.2,.int .i64 d.wkind,.slice Av d.wvals.length cv,.slice As d.wsteps.length cs,.string d.mname,.int .u8 d.mkind,.slice Ag d.mg.length cg,.slice Am d.mv.length cm] 89) none
    obtain ⟨m0,m1,m2,m3,m4,m5,m6,m7,m8,m9,m10,m11,m12⟩:=DevBox.of (Blk.new wr #[.int .u8 d.kind,.string d.name,.slice An d.nodes.length cn,.int .i64 d.ref,.int .i64 d.val.1,.int .i64 d.val.2,.int .i64 d.wkind,.slice Av d.wvals.length cv,.slice As d.wsteps.length cs,.string d.mname,.int .u8 d.mkind,.slice Ag d.mg.length cg,.slice Am d.mv.length cm] 89)
    have HGA:=Ac (Ae hg ga)
    have HLT:=Ac hlt
    clear hat hg ga hz
    go_wp2_with fail
    have hlt2:=HLT.out
    exact ⟨⟨k+1,_,hlt2,by go_num,rfl,A22 _,HGA.out⟩,by simp only [intOf];omega⟩
   ·as_aux_lemma =>
     go_wp2_with fail
     go_ret
     exact ⟨.inr rfl,Ae HGW.out hg⟩
  ·as_aux_lemma =>
    obtain rfl:k=f.devs.length:=by omega
    go_wp2_with fail
    go_ret
    first | exact ⟨decide (2000≤z),rfl,Ae HGW.out hg⟩ | exact ⟨decide ((2000:Int)≤z),by simp,Ae HGW.out hg⟩ | exact ⟨rfl,Ae HGW.out hg⟩
theorem N5 (w:World) (k:Int) (h0:0≤k) (h1:k≤255) :
  Calls Tryz.prog 87 #[.int .u8 k] w fun e w'=>e=.returned (.bool (isBr k))∧w'=w:=by
 obtain ⟨R,hR⟩:∃ R,isBr k=R:=⟨_,rfl⟩
 rw [hR]
 have HR:=Ac hR
 clear hR
 go_enter Tryz.func87,Tryz.ntmps87
 go_wp2_with fail
 all_goals
  have hR:=HR.out
  go_ret
  exact ⟨by rw [←hR];first | rfl | (simp [isBr];done) | (simp [isBr];omega),rfl⟩
set_option maxRecDepth 100000 in
theorem Qb (w:World) (f:Bf) (A1:Option Addr) (c1:Nat) (A2:Option Addr) (c2:Nat) (hf:FlatAt w f A1 c1 A2 c2) (hl1:f.nodes.length≤1099511627776) (hl2:f.devs.length≤1099511627776) :
  Calls Tryz.prog 32 #[.agg #[.slice A1 f.nodes.length c1,.slice A2 f.devs.length c2,.int .i64 f.step.1,.int .i64 f.step.2,.int .i64 f.method]] w fun e w'=>∃ v,e=.returned (.tuple #[.int .i64 (unk f),v])∧w.grownBy w' none:=by
 have gw:=Af w (.cells #[.slice A1 f.nodes.length c1,.slice A2 f.devs.length c2,.int .i64 f.step.1,.int .i64 f.step.2,.int .i64 f.method] 27) none
 obtain ⟨m0,m1,m2,m3,m4⟩:=FlatBox.of (Blk.new w #[.slice A1 f.nodes.length c1,.slice A2 f.devs.length c2,.int .i64 f.step.1,.int .i64 f.step.2,.int .i64 f.method] 27)
 have HF:=Ac (hf.more gw)
 have HU:Hid (unk f=(f.nodes.length:Int)-1+nbr f.devs f.devs.length):=Ac rfl
 clear hf
 go_enter Tryz.func32,Tryz.ntmps32
 go_wp2_with fail
 generalize w.alloc (.cells #[.slice A1 f.nodes.length c1,.slice A2 f.devs.length c2,.int .i64 f.step.1,.int .i64 f.step.2,.int .i64 f.method] 27)=wa at *
 generalize w.heap.size=s at *
 go_loopw [4,5,6] (fun n v i wr=>∃ k:Nat,k≤f.devs.length∧i=.int .i64 k∧n=.int .i64 ((f.nodes.length:Int)-1+(nbr f.devs k:Nat))∧Hid (∃ xs,wr.ownsRow wa.heap.size 3 1 v k xs)∧wa.grownBy wr none) (fun _ _ i _=>(f.devs.length-intOf i).toNat)
 case atStart=>exact ⟨0,by omega,rfl,by simp [nbr],Ac ⟨_,World.ownsRow_nil _ _ _ _⟩,Al _ _⟩
 case round =>
  obtain ⟨k,hk,rfl,rfl,hown,hg⟩:=hrel
  have hnb:=Up f.devs k
  have m1:=Aj hg m1 (by simp)
  by_cases hlt:k<f.devs.length
  ·obtain ⟨b,o,An,cn,Av,cv,As,cs,Ag,cg,Am,cm,rfl,hat,hc⟩:=(HF.out.more hg).devs.at2 hlt
   obtain ⟨xs,hown2⟩:=hown.out
   have hnsu:=Hx hlt
   generalize f.devs.getD k dev0=d at *
   obtain ⟨q0,q1,q2,q3,q4,q5,q6,q7,q8,q9,q10,q11,q12⟩:=hc
   have HBR:=Ac (fun W=>N5 W d.kind hat.kind.1 hat.kind.2)
   have hsb:=hg.size
   clear q1 q2 q3 q4 q5 q6 q7 q8 q9 q10 q11 q12 hat hown
   cases hb:isBr d.kind with
   | true =>
    rw [hb] at hnsu HBR
    rw [if_pos rfl] at hnsu
    have HI:=Ac hnsu
    clear hnsu hb
    go_wp2_with fail
    refine (HBR.out _).mono ?_
    rintro e w1 ⟨rfl,rfl⟩
    have hi:=HI.out
    go_wp2_with (first
     | (at_builtin;refine Fp wa.heap.size rfl (.tmp 25) (.tmp 27) 30 3 (.int .i64 0) 1 8 rfl Tryz.underlying30 Cm rfl (by omega) (by omega) u5 k xs #[.int .i64 ((f.nodes.length:Int)-1+(nbr f.devs k:Nat))] (by rfl) hown2 (by rfl) rfl (by simp [Value.oneCell']) (by omega) (by omega) ?_;intro v1 w1 hown1 hg1 hat1)
     | go_in)
    go_roundw
    case rel=>exact ⟨k+1,by omega,by go_num,Bl (by rw [HI.out];omega),Ac ⟨_,hown1⟩,Ep hg hg1 (D4 hown2)⟩
    case measure=>simp [intOf];omega
   | false =>
    rw [hb] at hnsu HBR
    rw [if_neg (by simp)] at hnsu
    have HI:=Ac hnsu
    clear hnsu hb
    go_wp2_with fail
    refine (HBR.out _).mono ?_
    rintro e w1 ⟨rfl,rfl⟩
    have hi:=HI.out
    go_wp2_with (first
     | (at_builtin;refine Fp wa.heap.size rfl (.tmp 31) (.tmp 32) 30 3 (.int .i64 0) 1 8 rfl Tryz.underlying30 Cm rfl (by omega) (by omega) u5 k xs #[.int .i64 (-1)] (by rfl) hown2 (by rfl) rfl (by simp [Value.oneCell']) (by omega) (by omega) ?_;intro v1 w1 hown1 hg1 hat1)
     | go_in)
    go_roundw
    case rel=>exact ⟨k+1,by omega,by go_num,Bl (by rw [HI.out];omega),Ac ⟨_,hown1⟩,Ep hg hg1 (D4 hown2)⟩
    case measure=>simp [intOf];omega
  ·obtain rfl:k=f.devs.length:=by omega
   go_wp2
   go_ret2
   exact ⟨_,rfl,Ae gw hg⟩
end
section
open Go.RowKit Go.Maps
theorem A0e {f:Bf} (h:(Fv f&&Ca f&&f.nodes.all D3&&Em f&&decide (Cx f.devs).Nodup)=false):Cq f=90:=by
 unfold Cq;rw [h];rfl
theorem Dx {f:Bf} (h:Fv f=false∨Ca f=false∨f.nodes.all D3=false∨Em f=false∨¬ (Cx f.devs).Nodup):Cq f=90:=by
 refine A0e ?_
 rcases h with h | h | h | h | h
 ·rw [h];rfl
 ·rw [h];simp
 ·rw [h];simp
 ·rw [h];simp
 ·rw [decide_eq_false h];simp
set_option maxRecDepth 100000 in
theorem Rf (w:World) (f:Bf) (A1:Option Addr) (c1:Nat) (A2:Option Addr) (c2:Nat) (hf:FlatAt w f A1 c1 A2 c2) (hmn:∀ d∈f.devs,d.mname.size≤4611686018427387904) :
    Calls Tryz.prog 37 #[.agg #[.slice A1 f.nodes.length c1,.slice A2 f.devs.length c2,.int .i64 f.step.1,.int .i64 f.step.2,.int .i64 f.method]] w fun e w'=>e=.returned (.int .i64 (Cq f))∧w.grownBy w' none:=by
  obtain ⟨R,hR⟩:∃ R,Cq f=R:=⟨_,rfl⟩
  rw [hR]
  have HR:=Ac hR
  clear hR
  have gw:=Af w (.cells #[.slice A1 f.nodes.length c1,.slice A2 f.devs.length c2,.int .i64 f.step.1,.int .i64 f.step.2,.int .i64 f.method] 27) none
  have hB:=FlatBox.of (Blk.new w #[.slice A1 f.nodes.length c1,.slice A2 f.devs.length c2,.int .i64 f.step.1,.int .i64 f.step.2,.int .i64 f.method] 27)
  have hN:=Df (w.alloc (.cells #[.slice A1 f.nodes.length c1,.slice A2 f.devs.length c2,.int .i64 f.step.1,.int .i64 f.step.2,.int .i64 f.method] 27)) f.step.1 f.step.2 hf.s1.1 hf.s1.2 hf.s2.1 hf.s2.2
  obtain ⟨N,hNN⟩:∃ N,decide (NumOK f.step.1 f.step.2)=N:=⟨_,rfl⟩
  rw [hNN] at hN
  have HN:Hid (Bu f.step=N):=Ac hNN
  have HC:=Ac hN
  have HF0:=Ac hf
  have HMN:=Ac hmn
  clear hN hNN hf hmn
  obtain ⟨p0,p1,p2,p3,p4⟩:=hB
  have HB:=Ac (FlatBox.mk p0 p1 p2 p3 p4)
  go_enter Tryz.func37,Tryz.ntmps37
  go_wp2_with fail
  generalize w.alloc (.cells #[.slice A1 f.nodes.length c1,.slice A2 f.devs.length c2,.int .i64 f.step.1,.int .i64 f.step.2,.int .i64 f.method] 27)=wa at *
  generalize w.heap.size=s at *
  refine HC.out.mono ?_
  rintro e w1 ⟨rfl,hg1⟩
  have HB1:=Ac (HB.out.more hg1)
  clear p0 p1 p2 p3 p4
  obtain ⟨p0,p1,p2,p3,p4⟩:=HB1.out
  have HG1:=Ac (Ae gw hg1)
  clear gw hg1 HB HC
  rcases N with _ | _
  · have HF:Hid (R=90):=Ac (by rw [←HR.out];exact Dx (.inl (by unfold Fv;rw [HN.out];rfl)))
    go_wp2_with fail
    go_ret
    exact ⟨B9 HF.out.symm,HG1.out⟩
  by_cases h1:f.step.1<1
  · have HF:Hid (R=90):=Ac (by rw [←HR.out];exact Dx (.inl (by unfold Fv;simp;omega)))
    go_wp2_with fail
    go_ret
    exact ⟨B9 HF.out.symm,HG1.out⟩
  by_cases h2:f.method<1
  · have HF:Hid (R=90):=Ac (by rw [←HR.out];exact Dx (.inl (by unfold Fv;simp;omega)))
    go_wp2_with fail
    go_ret
    exact ⟨B9 HF.out.symm,HG1.out⟩
  by_cases h3:2<f.method
  · have HF:Hid (R=90):=Ac (by rw [←HR.out];exact Dx (.inl (by unfold Fv;simp;omega)))
    go_wp2_with fail
    go_ret
    exact ⟨B9 HF.out.symm,HG1.out⟩
  by_cases h4:(f.nodes.length:Int)<1
  · have HF:Hid (R=90):=Ac (by rw [←HR.out];exact Dx (.inr (.inl (by unfold Ca;rw [decide_eq_false (show ¬ 1≤f.nodes.length by omega)];rfl))))
    go_wp2_with fail
    go_ret
    exact ⟨B9 HF.out.symm,HG1.out⟩
  by_cases h5:(32:Int)<(f.nodes.length:Int)
  · have HF:Hid (R=90):=Ac (by rw [←HR.out];exact Dx (.inr (.inl (by unfold Ca;rw [decide_eq_false (show ¬ f.nodes.length≤32 by omega)];simp))))
    go_wp2_with fail
    go_ret
    exact ⟨B9 HF.out.symm,HG1.out⟩
  by_cases h6:(64:Int)<(f.devs.length:Int)
  · have HF:Hid (R=90):=Ac (by rw [←HR.out];exact Dx (.inr (.inl (by unfold Ca;rw [decide_eq_false (show ¬ f.devs.length≤64 by omega)];simp))))
    go_wp2_with fail
    go_ret
    exact ⟨B9 HF.out.symm,HG1.out⟩
  have hn0:∃ b o,A1=some ⟨b,o,none⟩∧w1.cell? ⟨b,o,none⟩=some (.string (f.nodes.getD 0 default)):=by
    obtain ⟨b,o,e,hc⟩:=Row.str_at (HF0.out.more HG1.out).nodes (i:=0) (by omega)
    exact ⟨b,o,e,hc⟩
  obtain ⟨b,o,rfl,q0⟩:=hn0
  generalize hx:f.nodes.getD 0 default=x at *
  have HX:=Ac hx
  have hxz:x=Tr↔x.toList=[48]:=by
    rw [Lib.toList_data]
    constructor
    · rintro rfl;rfl
    · intro h
      cases x with | mk a=>cases a with | mk l=>simp at h;subst h;rfl
  have HXZ:=Ac hxz
  clear hxz hx
  by_cases h7:x.toList=[48]
  rotate_left
  · have h7':(x.toList==[48])=false:=by rw [beq_eq_false_iff_ne];exact h7
    have HF:Hid (R=90):=Ac (by rw [←HR.out];exact Dx (.inr (.inl (by unfold Ca;rw [HX.out,decide_eq_false (fun e=>h7 (HXZ.out.1 e))];simp))))
    clear h7
    go_wp2_with fail
    go_ret
    exact ⟨B9 HF.out.symm,HG1.out⟩
  have h7':(x.toList==[48])=true:=by rw [beq_iff_eq];exact h7
  have HHD:Hid (Fv f=true):=Ac (by unfold Fv;rw [HN.out];simp;omega)
  have HND:Hid (f.nodes.Nodup→Ca f=true):=Ac (fun h=>by
    have e0:f.nodes.getD 0 default=Tr:=by rw [HX.out];exact HXZ.out.2 h7
    unfold Ca
    rw [e0]
    simp [h];omega)
  have HL:=Ac (show f.nodes.length≤32∧f.devs.length≤64 by omega)
  clear HXZ HX HN h7
  go_wp2_with fail
  clear p0 p1 p2 p3 p4 q0 h7' h1 h2 h3 h4 h5 h6
  go_loopw [3,4] (fun v i wr=>∃ k:Nat,k≤f.devs.length∧i=.int .i64 k∧wr.ownsRow w1.heap.size 9 1 v k (strs (Cx (f.devs.take k)))∧w1.grownBy wr none∧Hid (∀ t,t<k→devB f.nodes.length f.devs (f.devs.getD t dev0)=true)) (fun _ i _=>(f.devs.length-intOf i).toNat)
  case atStart=>exact ⟨0,by omega,rfl,World.ownsRow_nil _ _ _ _,Al _ _,Ac (fun t ht=>by omega)⟩
  case round =>
    obtain ⟨k,hk,rfl,hown,hg,hb⟩:=hrel
    have hll:=HL.out
    obtain ⟨m0,m1,m2,m3,m4⟩:=HB1.out.more hg
    by_cases hlt:k<f.devs.length
    · obtain ⟨b2,o2,An,cn,Av,cv,As,cs,Ag,cg,Am,cm,rfl,hat,hc⟩:=(HF0.out.more (Ae HG1.out hg)).devs.at2 hlt
      have hki:(k:Int)<(f.devs.length:Int):=by omega
      have HNS:=Ac (Nz hlt)
      have hmk:=HMN.out (f.devs.getD k dev0) (by simp [List.getD,List.getElem?_eq_getElem hlt])
      have HDN:=Ac (fun h:devB f.nodes.length f.devs (f.devs.getD k dev0)=false=>show Em f=false by
        unfold Em
        rw [decide_eq_false_iff_not]
        intro hh
        rw [hh k hlt] at h
        cases h)
      generalize hd:f.devs.getD k dev0=d at *
      have HD:=Ac hd
      obtain ⟨q0,q1,q2,q3,q4,q5,q6,q7,q8,q9,q10,q11,q12⟩:=hc
      have M0:=fun p=>B8 m0 p
      have M1:=fun p=>B8 m1 p
      have M2:=fun p=>B8 m2 p
      have M3:=fun p=>B8 m3 p
      have M4:=fun p=>B8 m4 p
      have Q0:=fun p=>B8 q0 p
      have Q1:=fun p=>B8 q1 p
      have Q2:=fun p=>B8 q2 p
      have Q3:=fun p=>B8 q3 p
      have Q4:=fun p=>B8 q4 p
      have Q5:=fun p=>B8 q5 p
      have Q6:=fun p=>B8 q6 p
      have Q7:=fun p=>B8 q7 p
      have Q8:=fun p=>B8 q8 p
      have Q9:=fun p=>B8 q9 p
      have Q10:=fun p=>B8 q10 p
      have Q11:=fun p=>B8 q11 p
      have Q12:=fun p=>B8 q12 p
      have HRC:=Ac (fun p=>Qa (gr wr p) (some ⟨b,o,none⟩) c1 (some ⟨b2,o2,none⟩) c2 f.step.1 f.step.2 f.method f.nodes f.devs d An cn Av cv As cs Ag cg Am cm HF0.out.n1 HF0.out.n2 ((HF0.out.more (Ae HG1.out hg)).devs.more (Bc _ p)) (hat.more (Bc _ p)) hmk)
      obtain ⟨DB,hdb⟩:∃ DB,devB f.nodes.length f.devs d=DB:=⟨_,rfl⟩
      rw [hdb] at HRC HDN
      have HDB:=Ac hdb
      have HOWN:=Ac hown
      have HG:=Ac hg
      have HM1:=Ac m1
      have HQ1:=Ac q1
      clear hd hat hdb hown hg hlt hmk q0 q1 q2 q3 q4 q5 q6 q7 q8 q9 q10 q11 q12
      go_wp2_with fail
      (refine Bq (by kernel_rfl) (by kernel_rfl) ?_
       repeat (go_big_quiet_step ((go_at_call 93;exact Dc (HRC.out _))))
       refine wpQuiet_nil ?_
       intro _ hw'
       obtain ⟨pq,hw''⟩:=hw'
       subst hw'')
      clear m0 m1 m2 m3 m4
      have hgq:=Bc wr pq
      have HGQ:=Ac (Ae HG.out hgq)
      have m1:=Aj hgq HM1.out (by simp)
      have q1:=Aj hgq HQ1.out (by simp)
      have hown2:=Jc HOWN.out hgq
      clear HRC M0 M1 M2 M3 M4 Q0 Q1 Q2 Q3 Q4 Q5 Q6 Q7 Q8 Q9 Q10 Q11 Q12 HOWN HM1 HQ1 HG hgq
      generalize gr wr pq=wq at *
      rcases DB with _ | _
      · have HF:Hid (R=90):=Ac (by rw [←HR.out];exact Dx (.inr (.inr (.inr (.inl (HDN.out rfl))))))
        go_wp2_with fail
        go_ret
        exact ⟨B9 HF.out.symm,Ae HG1.out HGQ.out⟩
      · have hsb:=HGQ.out.size
        go_wp2_with (first
          | (at_builtin;refine Fp w1.heap.size rfl (.tmp 68) (.tmp 75) 22 9 (.string ByteArray.empty) 1 16 rfl Tryz.underlying22 Le rfl (by omega) (by omega) u3 k (strs (Cx (f.devs.take k))) #[.string d.name] (by rfl) hown2 (by rfl) rfl (by simp [Value.oneCell']) (by omega) (by omega) ?_;intro v1 w4 hown4 hg4 hat4)
          | go_in)
        go_roundw
        case rel=>exact ⟨k+1,by omega,by go_num,by rw [HNS.out,Mq];exact hown4,Ep HGQ.out hg4 (D4 hown2),Ac (fun t ht=>by
          by_cases htk:t=k
          · subst htk;rw [HD.out];exact HDB.out
          · exact hb.out t (by omega))⟩
        case measure=>simp [intOf];omega
    · obtain rfl:k=f.devs.length:=by omega
      have HDV:Hid (Em f=true):=Ac (by unfold Em;rw [decide_eq_true_iff];exact hb.out)
      have hr:=E5 hown
      rw [List.take_length] at hr
      have HRN:=Ac hr
      have HGR:=Ac (Ae HG1.out hg)
      have HB2:=Ac (HB1.out.more hg)
      have HFR:=Ac (HF0.out.more (Ae HG1.out hg))
      clear hr hown hb hk hlt hg HB1 HG1 HF0
      obtain ⟨wo,rfl⟩:∃ wo:World,wo=wr:=⟨_,rfl⟩
      go_wp2_with fail
      clear m0 m1 m2 m3 m4
      go_loopw [5] (fun i wr=>∃ k:Nat,k≤f.nodes.length∧i=.int .i64 k∧wo.grownBy wr none∧Hid (∀ t,t<k→D3 (f.nodes.getD t default)=true)) (fun i _=>(f.nodes.length-intOf i).toNat)
      case atStart=>exact ⟨0,by omega,rfl,Al _ _,Ac (fun t ht=>by omega)⟩
      case round =>
        obtain ⟨k,hk,rfl,hg,hb⟩:=hrel
        obtain ⟨m0,m1,m2,m3,m4⟩:=HB2.out.more hg
        by_cases hlt:k<f.nodes.length
        · obtain ⟨b',o',e',hcell⟩:=Row.str_at (HFR.out.more hg).nodes hlt
          injection e' with e'
          injection e' with e4 e5
          subst e4 e5
          have hki:(k:Int)<(f.nodes.length:Int):=by omega
          have hmem:f.nodes.getD k default∈f.nodes:=by simp [List.getD,List.getElem?_eq_getElem hlt]
          have hsz:=HFR.out.nsz _ hmem
          have HMEM:=Ac hmem
          clear hmem
          generalize hx1:f.nodes.getD k default=x1 at *
          have HX1:=Ac hx1
          clear hx1
          go_wp2_with fail
          refine (Ma wr x1 (by omega)).mono ?_
          rintro e w3 ⟨rfl,hg3⟩
          cases hl:D3 x1 with
          | false =>
            have HF:Hid (R=90):=Ac (by rw [←HR.out];exact Dx (.inr (.inr (.inl (by rw [List.all_eq_false];exact ⟨x1,HMEM.out,by simp [hl]⟩)))))
            clear hl
            go_wp2_with fail
            go_ret
            exact ⟨B9 HF.out.symm,Ae HGR.out (Ae hg hg3)⟩
          | true =>
            have HLO:=Ac hl
            clear hl
            go_wp2_with fail
            exact ⟨⟨k+1,by omega,by go_num,Ae hg hg3,Ac (fun t ht=>by
              by_cases htk:t=k
              · subst htk;rw [HX1.out];exact HLO.out
              · exact hb.out t (by omega))⟩,by simp [intOf];omega⟩
        · obtain rfl:k=f.nodes.length:=by omega
          have HLA:Hid (f.nodes.all D3=true):=Ac (by
            rw [List.all_eq_true]
            intro x hx
            obtain ⟨j,hj,rfl⟩:=List.mem_iff_getElem.1 hx
            have:=hb.out j hj
            rwa [show f.nodes.getD j default=f.nodes[j] by simp [List.getD,List.getElem?_eq_getElem hj]] at this)
          have HB3:=Ac (HB2.out.more hg)
          have HF3:=Ac (HFR.out.more hg)
          have HG3:=Ac (Ae HGR.out hg)
          have hT:=Ko wr _ (Cx f.devs) (HRN.out.more hg)
          obtain ⟨T,hTT⟩:∃ T,decide (¬ (Cx f.devs).Nodup)=T:=⟨_,rfl⟩
          rw [hTT] at hT
          have HT:=Ac hT
          have HTT:=Ac hTT
          clear hT hTT hb hk hlt hg HB2 HFR HGR HRN
          go_wp2_with fail
          refine HT.out.mono ?_
          rintro e w3 ⟨rfl,hg3⟩
          clear m0 m1 m2 m3 m4
          obtain ⟨m0,m1,m2,m3,m4⟩:=HB3.out.more hg3
          rcases T with _ | _
          rotate_left
          · have HF:Hid (R=90):=Ac (by rw [←HR.out];exact Dx (.inr (.inr (.inr (.inr (of_decide_eq_true HTT.out))))))
            go_wp2_with fail
            go_ret
            exact ⟨B9 HF.out.symm,Ae HG3.out hg3⟩
          have hT2:=Ko w3 _ f.nodes (HF3.out.more hg3).nodes
          obtain ⟨T2,hTT2⟩:∃ T,decide (¬ f.nodes.Nodup)=T:=⟨_,rfl⟩
          rw [hTT2] at hT2
          have HT2:=Ac hT2
          have HTT2:=Ac hTT2
          have HG4:=Ac (Ae HG3.out hg3)
          have HB4:=Ac (HB3.out.more hg3)
          have HF4:=Ac (HF3.out.more hg3)
          clear hT2 hTT2 hg3 HT HG3 HB3 HF3
          go_wp2_with fail
          refine HT2.out.mono ?_
          rintro e w4 ⟨rfl,hg4⟩
          clear m0 m1 m2 m3 m4
          obtain ⟨m0,m1,m2,m3,m4⟩:=HB4.out.more hg4
          rcases T2 with _ | _
          rotate_left
          · have HF:Hid (R=90):=Ac (by
              have hnd:=of_decide_eq_true HTT2.out
              rw [←HR.out];exact Dx (.inr (.inl (by unfold Ca;rw [decide_eq_false hnd,Bool.and_false]))))
            go_wp2_with fail
            go_ret
            exact ⟨B9 HF.out.symm,Ae HG4.out hg4⟩
          have HF:Hid (R=if unk f≤48 then 0 else 5):=Ac (by
            have h1:=of_decide_eq_false HTT.out
            have h2:=of_decide_eq_false HTT2.out
            simp only [Decidable.not_not] at h1 h2
            rw [←HR.out];unfold Cq
            rw [HHD.out,HND.out h2,HLA.out,HDV.out,decide_eq_true h1];rfl)
          have hC:=Qb w4 f _ _ _ _ (HF4.out.more hg4) HF4.out.n1 HF4.out.n2
          generalize unk f=U at *
          have HC:=Ac hC
          have HG5:=Ac (Ae HG4.out hg4)
          clear hC hg4
          go_wp2_with fail
          refine HC.out.mono ?_
          rintro e w5 ⟨v,rfl,hg5⟩
          by_cases h48:48<U
          · go_wp2_with fail
            go_ret
            exact ⟨B9 (by rw [HF.out,if_neg (by omega)]),Ae HG5.out hg5⟩
          · go_wp2_with fail
            go_ret
            exact ⟨B9 (by rw [HF.out,if_pos (by omega)]),Ae HG5.out hg5⟩
end
end Go.Proofs.YtckbiimikeiejaaGreatDoor
