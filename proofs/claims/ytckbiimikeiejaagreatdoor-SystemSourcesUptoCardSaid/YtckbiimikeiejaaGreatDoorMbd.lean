/- SumJ. -/
import Derived.Test.YtckbiimikeiejaaGreatDoorMbc
import Derived.Deep.RegionHeld3
import Derived.Deep.Cut
set_option linter.unusedVariables false
set_option linter.unusedSimpArgs false
set_option maxHeartbeats 40000000
namespace Go.Proofs.YtckbiimikeiejaaGreatDoor
section
open Go.RowKit Go.Maps
open Rat
set_option maxRecDepth 100000 in
theorem B6 (w:World) (f:Bf) (A1:Option Addr) (c1:Nat) (A2:Option Addr) (c2:Nat) (hf:FlatAt w f A1 c1 A2 c2) (hG:GlobOK w) (h0:Cq f=0)
    (mode method:Int) (step:Int × Int) (i1:I64 step.1) (i2:I64 step.2) (hs:setB mode method step=true) (hnb:∀ k,k<f.devs.length→Bp (f.devs.getD k dev0).kind=false) (n:Nat) (hn:unk f=(n:Int)) (St:Nat→List StampP) (K M:Nat)
    (hOf:∀ k,k<f.devs.length→∀ W,w.grownBy W none→Calls Tryz.prog 57 #[.agg #[.slice A1 f.nodes.length c1,.slice A2 f.devs.length c2,.int .i64 f.step.1,.int .i64 f.step.2,.int .i64 f.method],.int .i64 (k:Int),.agg #[.int .i64 mode,.int .i64 method,.int .i64 step.1,.int .i64 step.2],.int .i64 0] W fun e w'=>∃ A c,e=.returned (.tuple #[.slice A (St k).length c,.int .i64 0])∧StampRow w' (.slice A (St k).length c) (St k)∧W.grownBy w' none)
    (hSt:∀ k x,k<f.devs.length→x∈St k→(∃ r:Nat,x.row=(r:Int)∧r<n)∧(∃ kk:Nat,x.kind=(kk:Int)∧kk<5)∧LimQ x.val K) (hM:(C6 St f.devs.length).length≤M) (hM2:M≤100000) (hMK:2*(M*(K+2)+1+K)+1≤200000000) :
    Calls Tryz.prog 16 #[.agg #[.slice A1 f.nodes.length c1,.slice A2 f.devs.length c2,.int .i64 f.step.1,.int .i64 f.step.2,.int .i64 f.method],.agg #[.int .i64 mode,.int .i64 method,.int .i64 step.1,.int .i64 step.2],.slice none 0 0] w fun e w'=>∃ A c,e=.returned (.tuple #[.agg #[.slice A (G1 (C6 St f.devs.length) n).length c],.int .i64 (Fm (C6 St f.devs.length) n)])∧SysRow w' (.slice A (G1 (C6 St f.devs.length) n).length c) (G1 (C6 St f.devs.length) n)∧w.grownBy w' none:=by
  have g1:=Af w (.cells #[.slice A1 f.nodes.length c1,.slice A2 f.devs.length c2,.int .i64 f.step.1,.int .i64 f.step.2,.int .i64 f.method] 27) none
  have g2:=Af (w.alloc (.cells #[.slice A1 f.nodes.length c1,.slice A2 f.devs.length c2,.int .i64 f.step.1,.int .i64 f.step.2,.int .i64 f.method] 27)) (.cells #[.int .i64 mode,.int .i64 method,.int .i64 step.1,.int .i64 step.2] 29) none
  have g3:=Af ((w.alloc (.cells #[.slice A1 f.nodes.length c1,.slice A2 f.devs.length c2,.int .i64 f.step.1,.int .i64 f.step.2,.int .i64 f.method] 27)).alloc (.cells #[.int .i64 mode,.int .i64 method,.int .i64 step.1,.int .i64 step.2] 29)) (.cells #[.slice none 0 0] 38) none
  have gw:=Ae g1 (Ae g2 g3)
  have hFB:=(FlatBox.of (Blk.new w #[.slice A1 f.nodes.length c1,.slice A2 f.devs.length c2,.int .i64 f.step.1,.int .i64 f.step.2,.int .i64 f.method] 27)).more (Ae g2 g3)
  have hSB:=(Blk.new (w.alloc (.cells #[.slice A1 f.nodes.length c1,.slice A2 f.devs.length c2,.int .i64 f.step.1,.int .i64 f.step.2,.int .i64 f.method] 27)) #[.int .i64 mode,.int .i64 method,.int .i64 step.1,.int .i64 step.2] 29).more g3
  have hZB:=Blk.new ((w.alloc (.cells #[.slice A1 f.nodes.length c1,.slice A2 f.devs.length c2,.int .i64 f.step.1,.int .i64 f.step.2,.int .i64 f.method] 27)).alloc (.cells #[.int .i64 mode,.int .i64 method,.int .i64 step.1,.int .i64 step.2] 29)) #[.slice none 0 0] 38
  rw [World.size_alloc] at hSB hZB
  rw [World.size_alloc] at hZB
  have hsz:(((w.alloc (.cells #[.slice A1 f.nodes.length c1,.slice A2 f.devs.length c2,.int .i64 f.step.1,.int .i64 f.step.2,.int .i64 f.method] 27)).alloc (.cells #[.int .i64 mode,.int .i64 method,.int .i64 step.1,.int .i64 step.2] 29)).alloc (.cells #[.slice none 0 0] 38)).heap.size=w.heap.size+3:=by simp
  have hCF:=Dm _ f A1 c1 A2 c2 (hf.more gw) (hG.more gw)
  rw [h0] at hCF
  have HCF:=Ac hCF
  have HF:=Ac (hf.more gw)
  have HG:=Ac (hG.more gw)
  have HFB:=Ac hFB
  have HSB:=Ac hSB
  have HZB:=Ac hZB
  have HS:=Ac hs
  have H0:=Ac h0
  have HGW:=Ac gw
  have HSZ:=Ac hsz
  have HN:=Ac hn
  have HNB:=Ac hnb
  have HOF:=Ac hOf
  have HST:=Ac hSt
  have HM:=Ac hM
  have HM2:=Ac hM2
  have HMK:=Ac hMK
  obtain ⟨p0,p1,p2,p3,p4⟩:=hFB
  obtain ⟨r0,r1,r2,r3,_⟩:=hSB.four
  clear hCF hf hG h0 g1 g2 g3 hs hSB hZB hsz gw hn hnb hOf hSt hM hM2 hMK
  go_enter Tryz.func16,Tryz.ntmps16
  go_wp2_with fail
  generalize ((w.alloc (.cells #[.slice A1 f.nodes.length c1,.slice A2 f.devs.length c2,.int .i64 f.step.1,.int .i64 f.step.2,.int .i64 f.method] 27)).alloc (.cells #[.int .i64 mode,.int .i64 method,.int .i64 step.1,.int .i64 step.2] 29)).alloc (.cells #[.slice none 0 0] 38)=wa at *
  generalize hsw:w.heap.size=s at *
  have HSW:=Ac hsw
  clear hsw
  refine HCF.out.mono ?_
  rintro e w1 ⟨rfl,hg1⟩
  clear p0 p1 p2 p3 p4 r0 r1 r2 r3
  obtain ⟨p0,p1,p2,p3,p4⟩:=HFB.out.more hg1
  obtain ⟨r0,r1,r2,r3,_⟩:=(HSB.out.more hg1).four
  have hCS:=G7 w1 mode method step i1 i2
  rw [HS.out,if_pos rfl] at hCS
  have HCS:=Ac hCS
  clear hCS
  go_wp2_with fail
  refine HCS.out.mono ?_
  rintro e w2 ⟨rfl,hg2⟩
  clear p0 p1 p2 p3 p4 r0 r1 r2 r3
  have g12:=Ae hg1 hg2
  have K1:∀ w',w2.grownBy w' none→w'.cell? ⟨s,0,none⟩=some (.slice A1 f.nodes.length c1)∧w'.cell? ⟨s,1,none⟩=some (.slice A2 f.devs.length c2)∧w'.cell? ⟨s,2,none⟩=some (.int .i64 f.step.1)∧w'.cell? ⟨s,3,none⟩=some (.int .i64 f.step.2)∧w'.cell? ⟨s,4,none⟩=some (.int .i64 f.method):=fun w' h=>by
    obtain ⟨a0,a1,a2,a3,a4⟩:=HFB.out.more (Ae g12 h);exact ⟨a0,a1,a2,a3,a4⟩
  obtain ⟨p0,p1,p2,p3,p4⟩:=K1 _ (Al _ _)
  have HK:=Ac K1
  have HG12:=Ac g12
  have HBE:Hid (Cp f.devs f.devs.length=[]):=Ac (by
    unfold Cp
    rw [List.filter_eq_nil_iff.2 fun i hi=>by rw [HNB.out i (List.mem_range.1 hi)];simp];rfl)
  clear K1 hg1 hg2 g12
  go_wp2_with fail
  go_region_held3 (fun w'=>w'.cell? ⟨s,0,none⟩=some (.slice A1 f.nodes.length c1)∧w'.cell? ⟨s,1,none⟩=some (.slice A2 f.devs.length c2)∧w'.cell? ⟨s,2,none⟩=some (.int .i64 f.step.1)∧w'.cell? ⟨s,3,none⟩=some (.int .i64 f.step.2)∧w'.cell? ⟨s,4,none⟩=some (.int .i64 f.method)) ((refine HK.out _ ?_;(focus ((repeat (first | assumption | exact Al _ _ | exact Ai _ _ | exact Af _ _ _ | refine Ae ?_ (Af _ _ _) | refine Ae ?_ (Ai _ _) | refine Ae ?_ (by assumption)));done))))
   (first
   | (go_at_call 20;refine (N4 _ f A1 c1 A2 c2 (HF.out.more (Ae HG12.out (by (focus ((repeat (first | assumption | exact Al _ _ | exact Ai _ _ | exact Af _ _ _ | refine Ae ?_ (Af _ _ _) | refine Ae ?_ (Ai _ _) | refine Ae ?_ (by assumption)));done)))))).mono ?_;rintro e w3 ⟨v3,rfl,hr3,hf3,hg3⟩;rw [HBE.out] at hr3;obtain ⟨A3,c3,rfl,_⟩:=hr3)
   | (go_at_call 55;refine (B5 _ f A1 c1 A2 c2 A3 c3).mono ?_;rintro e w4 ⟨rfl,hg4⟩))
  all_goals
    go_wp2_with fail
    have hg4':w2.grownBy w4 none:=by (focus ((repeat (first | assumption | exact Al _ _ | exact Ai _ _ | exact Af _ _ _ | refine Ae ?_ (Af _ _ _) | refine Ae ?_ (Ai _ _) | refine Ae ?_ (by assumption)));done))
    have HGA4:=Ac (Ae HG12.out hg4')
    refine (Iy w4 f A1 c1 A2 c2 (HF.out.more HGA4.out) (HG.out.more HGA4.out) H0.out).mono ?_
    rintro e w5 ⟨v5,rfl,hr5,hg5⟩
    rw [HN.out]
    have HGA5:=Ac (Ae HGA4.out hg5)
    have hdl:f.devs.length≤64:=(Fb H0.out).2.1
    have hn48:n≤48:=by have:=(Fb H0.out).2.2.1;rw [HN.out] at this;omega
    have hmk:=Wz w5 n hn48
    clear hg4' hg5 hr5 p0 p1 p2 p3 p4
    obtain ⟨p0,p1,p2,p3,p4⟩:=HFB.out.more HGA5.out
    have hsm:=Xq w5 n 132
    have gsm:=Af w5 (.cells (Array.replicate (n*5) (Value.map none)) 132) none
    have HSM:=Ac hsm
    have HGSM:=Ac gsm
    have p1:=Aj gsm p1 (by simp)
    clear hsm gsm
    go_wp2_with fail
    clear hmk p0 p1 p2 p3 p4
    go_loopw [55] (fun iv wr=>∃ k:Nat,k≤f.devs.length∧iv=.int .i64 k∧w5.grownBy wr none∧Hid (SumsS wr w5.heap.size w5.heap.size n (C6 St k))) (fun iv _=>(f.devs.length-intOf iv).toNat)
    case atStart=>exact ⟨0,by omega,rfl,HGSM.out,HSM⟩
    case round =>
      obtain ⟨k,hk,rfl,hg,hsums⟩:=hrel
      have HGK:=Ac (Ae HGA5.out hg)
      obtain ⟨p0,p1,p2,p3,p4⟩:=HFB.out.more HGK.out
      obtain ⟨r0,r1,r2,r3,_⟩:=(HSB.out.more HGK.out).four
      by_cases hlt:k<f.devs.length
      · as_aux_lemma =>
          obtain ⟨b,o,An,cn,Av,cv,As,cs,Ag,cg,Am,cm,rfl,hat,hc⟩:=(HF.out.more HGK.out).devs.at2 hlt
          have hbn:=HNB.out k hlt
          generalize f.devs.getD k dev0=d at *
          have t100:(d.kind==100)=false:=by rw [beq_eq_false_iff_ne];intro h;simp [Bp,h] at hbn
          have t115:(d.kind==115)=false:=by rw [beq_eq_false_iff_ne];intro h;simp [Bp,h] at hbn
          obtain ⟨q0,q1,q2,q3,q4,q5,q6,q7,q8,q9,q10,q11,q12⟩:=hc
          have ga:=Af wr (.cells #[.int .u8 d.kind,.string d.name,.slice An d.nodes.length cn,.int .i64 d.ref,.int .i64 d.val.1,.int .i64 d.val.2,.int .i64 d.wkind,.slice Av d.wvals.length cv,.slice As d.wsteps.length cs,.string d.mname,.int .u8 d.mkind,.slice Ag d.mg.length cg,.slice Am d.mv.length cm] 89) none
          have hDB:=DevBox.of (Blk.new wr #[.int .u8 d.kind,.string d.name,.slice An d.nodes.length cn,.int .i64 d.ref,.int .i64 d.val.1,.int .i64 d.val.2,.int .i64 d.wkind,.slice Av d.wvals.length cv,.slice As d.wsteps.length cs,.string d.mname,.int .u8 d.mkind,.slice Ag d.mg.length cg,.slice Am d.mv.length cm] 89)
          obtain ⟨m0,m1,m2,m3,m4,m5,m6,m7,m8,m9,m10,m11,m12⟩:=hDB
          have p0:=Aj ga p0 (by simp)
          have p1:=Aj ga p1 (by simp)
          have p2:=Aj ga p2 (by simp)
          have p3:=Aj ga p3 (by simp)
          have p4:=Aj ga p4 (by simp)
          have r0:=Aj ga r0 (by simp)
          have r1:=Aj ga r1 (by simp)
          have r2:=Aj ga r2 (by simp)
          have r3:=Aj ga r3 (by simp)
          have HG5K:=Ac (Ae hg ga)
          have HSK:=Ac (hsums.out.more ga)
          have hwk:w.grownBy (wr.alloc (.cells #[.int .u8 d.kind,.string d.name,.slice An d.nodes.length cn,.int .i64 d.ref,.int .i64 d.val.1,.int .i64 d.val.2,.int .i64 d.wkind,.slice Av d.wvals.length cv,.slice As d.wsteps.length cs,.string d.mname,.int .u8 d.mkind,.slice Ag d.mg.length cg,.slice Am d.mv.length cm] 89)) none:=Ae HGW.out (Ae HGK.out ga)
          have HCO:=Ac (HOF.out k hlt _ hwk)
          have HLT:=Ac hlt
          clear hat hbn ga hg hwk hsums
          go_wp2_with fail
          generalize wr.alloc (.cells #[.int .u8 d.kind,.string d.name,.slice An d.nodes.length cn,.int .i64 d.ref,.int .i64 d.val.1,.int .i64 d.val.2,.int .i64 d.wkind,.slice Av d.wvals.length cv,.slice As d.wsteps.length cs,.string d.mname,.int .u8 d.mkind,.slice Ag d.mg.length cg,.slice Am d.mv.length cm] 89)=wb at *
          refine HCO.out.mono ?_
          rintro e w6 ⟨A6,c6,rfl,hst6,hg6⟩
          have HST6:=Ac hst6
          have HG56:=Ac (Ae HG5K.out hg6)
          have HSS6:=Ac (HSK.out.more hg6)
          clear q0 q1 q2 q3 q4 q5 q6 q7 q8 q9 q10 q11 q12 p0 p1 p2 p3 p4 m0 m1 m2 m3 m4 m5 m6 m7 m8 m9 m10 m11 m12 r0 r1 r2 r3 hst6 hg6
          go_wp2_with fail
          go_loopw [84] (fun iv wx=>∃ t:Nat,t≤(St k).length∧iv=.int .i64 t∧Hid (Bel w5.heap.size w6 wx)∧Hid (SumsS wx w5.heap.size w5.heap.size n (C6 St k++(St k).take t))) (fun iv _=>((St k).length-intOf iv).toNat)
          case atStart=>exact ⟨0,by omega,rfl,Ac (Cy (Al _ _) HG56.out.size),Ac (by rw [List.take_zero,List.append_nil];exact HSS6.out)⟩
          case round =>
            obtain ⟨t,ht,rfl,hbel,hsx⟩:=hrel
            by_cases htl:t<(St k).length
            · obtain ⟨b7,A7,n7,c7,A8,n8,c8,e7,hcol,u0,u1,u2,u3',u4,u5,u6,hn7,hn8⟩:=(HST6.out.stay hbel.out.stay).at htl
              have htake:(St k).take (t+1)=(St k).take t++[(St k)[t]]:=by rw [List.take_add_one,List.getElem?_eq_getElem htl];rfl
              obtain ⟨⟨r,hr,hrn⟩,⟨kk,hkk,hk5⟩,hlx⟩:=HST.out k (St k)[t] HLT.out (List.getElem_mem _)
              have hlm:=Tl (t:=t) HM.out HLT.out (by omega)
              have hLL:LimL (C6 St k++(St k).take t) K:=fun y hy=>by
                rcases List.mem_append.1 hy with hy | hy
                · obtain ⟨j,hj,hx⟩:=Jn hy;exact (HST.out j y (by have:=HLT.out;omega) hx).2.2
                · exact (HST.out k y HLT.out (List.mem_of_mem_take hy)).2.2
              subst e7
              generalize hxx:(St k)[t]=x at *
              clear hxx
              rw [hkk] at u0
              rw [hr] at u1
              have gc:=Af wr (.cells #[.int .i64 (kk:Int),.int .i64 (r:Int),.int .i64 x.col,.bool (decide (x.val.num<0)),.slice A7 n7 c7,.bool false,.slice A8 n8 c8] 128) none
              obtain ⟨v0,v1,v2,v3,v4,v5',v6⟩:=(Blk.new wr #[.int .i64 (kk:Int),.int .i64 (r:Int),.int .i64 x.col,.bool (decide (x.val.num<0)),.slice A7 n7 c7,.bool false,.slice A8 n8 c8] 128).seven
              have hbsz:w5.heap.size≤wr.heap.size:=Nat.le_trans HG56.out.size hbel.out.size
              have hmk2:2*((C6 St k++(St k).take t).length*(K+2)+1+K)+1≤549755813888:=by
                have h1:=Nat.mul_le_mul_right (K+2) hlm
                have h2:=HMK.out
                omega
              have HADD:=Ac (fun (W:World) (hW:wr.grownBy W none)=>Uz W w5.heap.size w5.heap.size n r kk K (C6 St k++(St k).take t) x A7 A8 n7 c7 n8 c8 (hsx.out.more hW) (Nat.le_trans hbsz hW.size) hcol (hn7.more hW) (hn8.more hW) hr hrn hn48 hkk hk5 hLL hlx hmk2 (by have:=HM2.out;omega))
              have HTK:=Ac htake
              have HBEL:=hbel
              have HGC:=Ac gc
              have HTL:=Ac htl
              have HBSZ:=Ac (Nat.le_trans hbsz (Ae gc (Ai _ _)).size)
              have HBC:=Ac (Cy (Ae gc (Ai _ _)) hbsz)
              have HSL:Hid ((St k).length≤100000):=Ac (by have h1:=Tl (t:=(St k).length) HM.out HLT.out (Nat.le_refl _);rw [List.length_append,List.length_take] at h1;have:=HM2.out;omega)
              have j0:(0:Int)≤(r:Int):=by omega
              have j1:(r:Int)<(n:Int):=by omega
              clear hlx hLL hmk2 hlm htake hsx hbel hn7 hn8 hr hkk gc htl hbsz hcol
              go_upto_region 23 with (fail)
              clear u0 u1 u2 u3' u4 u5 u6
              generalize wr.alloc (.cells #[.int .i64 (kk:Int),.int .i64 (r:Int),.int .i64 x.col,.bool (decide (x.val.num<0)),.slice A7 n7 c7,.bool false,.slice A8 n8 c8] 128)=wc at *
              generalize wr.heap.size=sq at *
              go_still_tail 5,(by kernel_rfl)
              change wpList _ _ _ _ _ wc.drew
              go_wp2_with fail
              refine (HADD.out wc.drew (Ae HGC.out (Ai _ _))).mono ?_
              rintro e w8 ⟨rfl,hs8,hbel8⟩
              have HS8:=Ac hs8
              have HB8:=Ac hbel8
              clear hs8 hbel8 v0 v1 v2 v3 v4 v5' v6
              have htl:=HTL.out
              have hsl:=HSL.out
              go_wp2_with fail
              exact ⟨⟨t+1,by omega,by go_num,Ac ((HBEL.out.trans (HBC.out)).trans HB8.out),Ac (by rw [HTK.out,←List.append_assoc];exact HS8.out)⟩,by simp [intOf];omega⟩
            · obtain rfl:t=(St k).length:=by omega
              have hsx':=hsx.out
              rw [List.take_of_length_le (Nat.le_refl _)] at hsx'
              have HSX:=Ac hsx'
              have hgb:w5.grownBy wr none:=Hk ((Yx HG56.out).trans hbel.out.below)
              have HGB:=Ac hgb
              clear hsx hsx' hgb hbel
              have hlt:=HLT.out
              go_wp2_with fail
              exact ⟨⟨k+1,by omega,by go_num,HGB.out,HSX⟩,by simp [intOf];omega⟩
      · as_aux_lemma =>
          obtain rfl:k=f.devs.length:=by omega
          have HSX:=hsums
          have HG5R:=Ac hg
          have HLLA:Hid (LimL (C6 St f.devs.length) K):=Ac fun y hy=>by
            obtain ⟨j,hj,hx⟩:=Jn hy;exact (HST.out j y hj hx).2.2
          have HMM:=HM
          clear hsums hg p0 p1 p2 p3 p4 r0 r1 r2 r3 HST HOF HNB HF HG HCF HCS HS HBE
          go_wp2_with fail
          obtain ⟨w9,rfl⟩:∃ w9:World,w9=wr:=⟨_,rfl⟩
          have hob:=Blk.new w9 #[.slice none 0 0] 38
          have hgo:=Af w9 (.cells #[.slice none 0 0] 38) none
          have hosz:(w9.alloc (.cells #[.slice none 0 0] 38)).heap.size=w9.heap.size+1:=by simp
          obtain ⟨ob,hobe⟩:∃ ob,ob=w9.heap.size:=⟨_,rfl⟩
          rw [←hobe] at hob hosz ⊢
          obtain ⟨wo,hwo⟩:∃ wo,wo=w9.alloc (.cells #[.slice none 0 0] 38):=⟨_,rfl⟩
          rw [←hwo] at hob hgo hosz ⊢
          have HOB:=Ac hob
          have HGO:=Ac hgo
          have HOSZ:=Ac hosz
          have HOBE:=Ac hobe
          clear hob hgo hosz hobe hwo
          go_loopw [98] (fun iv wx=>∃ k:Nat,k≤n∧iv=.int .i64 k∧w9.grownBy wx none∧Hid (∃ (A:Option Addr) (c:Nat) (xs:List Value),(k=0→A=none)∧Blk wx ob #[.slice A k c]∧OwnQ wx (ob+1) 52 7 (.slice A k c) k xs∧RecR 7 (RowW wx) xs (H8 (C6 St f.devs.length) k))∧Hid (∀ r,r<k→It (C6 St f.devs.length) r=true)) (fun iv _=>(n-intOf iv).toNat)
          case atStart=>exact ⟨0,by omega,rfl,HGO.out,Ac ⟨none,0,[],fun _=>rfl,HOB.out,OwnQ.nil _ _ _ _,rfl⟩,Ac (fun r hr=>by omega)⟩
          case round =>
            obtain ⟨k,hk,rfl,hg,hrows,hwide⟩:=hrel
            obtain ⟨A,c,xs,hnil,hblk,hown,hrec⟩:=hrows.out
            have hoblt:=hblk.lt
            have HBLK:=Ac hblk
            have HOWN:=Ac hown
            have HREC:=Ac hrec
            have HOBL:=Ac hoblt
            have HNIL:=Ac hnil
            clear hnil
            clear hrows hblk hown hrec hoblt
            by_cases hlt:k<n
            · as_aux_lemma =>
                have j0:(0:Int)≤(k:Int):=by omega
                have j1:(k:Int)<(n:Int):=by omega
                have HG:=Ac hg
                have HLT:=Ac hlt
                have hMK:=HMK.out
                have hMM:=HM.out
                have hM2:=HM2.out
                have hkb:(C6 St f.devs.length).length*(K+2)+1≤200000000:=by
                  have h1:=Nat.mul_le_mul_right (K+2) hMM
                  omega
                have HROW:=Ac (V8 wr w5.heap.size w5.heap.size n k K (C6 St f.devs.length) (HSX.out.more hg) hlt HLLA.out hkb (by omega))
                clear hg hlt hMK hMM hM2 hkb
                go_wp2_with fail
                refine HROW.out.mono ?_
                rintro e w10 ⟨vm,va,vh,vs,vk,rfl,hm10,ha10,hh10,hs10,hk10,⟨l1,l2,l3⟩,hg10⟩
                obtain ⟨Am,cm,rfl,_⟩:=hm10.form
                obtain ⟨Aa,ca,rfl,_⟩:=ha10.here.ctor
                obtain ⟨Ah,ch,rfl,_⟩:=hh10.here.ctor
                obtain ⟨As',cs',rfl,_⟩:=hs10.here.ctor
                obtain ⟨Ak,ck,rfl,_⟩:=hk10.form
                have HLM:=Ac (show (C6 St f.devs.length).length≤100000 from Nat.le_trans HM.out HM2.out)
                have HRS:Hid (H8 (C6 St f.devs.length) (k+1)=H8 (C6 St f.devs.length) k++[Dk (C6 St f.devs.length) k]):=Ac (Sy _ _)
                have HWB:Hid (It (C6 St f.devs.length) k=(E0 (Dk (C6 St f.devs.length) k) 3).all fun x=>decide (x≤72)):=Ac rfl
                generalize Dk (C6 St f.devs.length) k=R at hm10 ha10 hh10 hs10 hk10 l1 l2 l3 HRS HWB ⊢
                have gr:=Af w10 (.cells #[.bool R.mneg,.slice Am R.mlimbs.length cm,.slice Aa R.a.length ca,.slice Ah R.h.length ch,.slice As' R.s.length cs',.bool R.kneg,.slice Ak R.klimbs.length ck] 52) none
                have hBR:=Blk.new w10 #[.bool R.mneg,.slice Am R.mlimbs.length cm,.slice Aa R.a.length ca,.slice Ah R.h.length ch,.slice As' R.s.length cs',.bool R.kneg,.slice Ak R.klimbs.length ck] 52
                obtain ⟨v0,v1,v2,v3,v4,v5',v6⟩:=hBR.seven
                have HBR:=Ac hBR
                have HGR:=Ac (Ae hg10 gr)
                have hl1:R.a.length≤1000000:=Nat.le_trans l1 (Nat.le_trans HLM.out (by omega))
                have hl2:R.h.length≤1000000:=Nat.le_trans l2 (Nat.le_trans HLM.out (by omega))
                have hl3:R.s.length≤1000000:=Nat.le_trans l3 (Nat.le_trans HLM.out (by omega))
                have HNUM:=Ac (P3 (w10.alloc (.cells #[.bool R.mneg,.slice Am R.mlimbs.length cm,.slice Aa R.a.length ca,.slice Ah R.h.length ch,.slice As' R.s.length cs',.bool R.kneg,.slice Ak R.klimbs.length ck] 52)) R R.mneg R.kneg Am Aa Ah As' Ak cm ca ch cs' ck (ha10.here.more gr) (hh10.here.more gr) (hs10.here.more gr) hl1 hl2 hl3)
                have HRW:=Ac (show RowW (w10.alloc (.cells #[.bool R.mneg,.slice Am R.mlimbs.length cm,.slice Aa R.a.length ca,.slice Ah R.h.length ch,.slice As' R.s.length cs',.bool R.kneg,.slice Ak R.klimbs.length ck] 52)) [.bool R.mneg,.slice Am R.mlimbs.length cm,.slice Aa R.a.length ca,.slice Ah R.h.length ch,.slice As' R.s.length cs',.bool R.kneg,.slice Ak R.klimbs.length ck] R from ⟨_,_,_,_,_,rfl,hm10.more gr,ha10.more gr,hh10.more gr,hs10.more gr,hk10.more gr⟩)
                have hs10':=hg10.size
                have HRL:=Ac (And.intro hl1 (And.intro hl2 hl3))
                clear hm10 ha10 hh10 hs10 hk10 l1 l2 l3 hl1 hl2 hl3 gr hg10 hBR
                go_wp2_with fail
                obtain ⟨w11,hw11⟩:∃ W,W=w10.alloc (.cells #[.bool R.mneg,.slice Am R.mlimbs.length cm,.slice Aa R.a.length ca,.slice Ah R.h.length ch,.slice As' R.s.length cs',.bool R.kneg,.slice Ak R.klimbs.length ck] 52):=⟨_,rfl⟩
                rw [←hw11] at v0 v1 v2 v3 v4 v5' v6 HBR HGR HNUM HRW ⊢
                obtain ⟨rq,hrq⟩:∃ r,r=w10.heap.size:=⟨_,rfl⟩
                rw [←hrq] at v0 v1 v2 v3 v4 v5' v6 HBR ⊢
                have HRQ:Hid (rq<w11.heap.size∧ob<rq):=Ac ⟨by rw [hw11,hrq,World.size_alloc];omega,by rw [hrq];exact Nat.lt_of_lt_of_le HOBL.out hs10'⟩
                clear hw11 hrq
                refine HNUM.out.mono ?_
                rintro e w12 ⟨vn,rfl,hn12,hg12⟩
                obtain ⟨An',cn',rfl,_⟩:=id hn12
                have HN12:=Ac hn12
                have HG12':=Ac (Ae HGR.out hg12)
                have HBR12:=Ac (HBR.out.more hg12)
                have HRW12:=Ac (HRW.out.step (StayR.none hg12))
                clear hn12 hg12 v0 v1 v2 v3 v4 v5' v6
                have hnsl:(E0 R 3).length≤3000002:=by have:=Jy R 3 (by omega);have:=HRL.out;omega
                generalize E0 R 3=ns at HN12 HWB hnsl ⊢
                go_wp2_with fail
                go_loopw [108] (fun iv wx=>∃ t:Nat,t≤ns.length∧iv=.int .i64 t∧w12.grownBy wx none∧Hid (∀ i (hi:i<ns.length),i<t→ns[i]≤72)) (fun iv _=>(ns.length-intOf iv).toNat)
                case atStart=>exact ⟨0,by omega,rfl,Al _ _,Ac (fun i hi h=>by omega)⟩
                case round =>
                  obtain ⟨t,ht,rfl,hg,hle⟩:=hrel
                  by_cases htl:t<ns.length
                  · obtain ⟨b,b',A',c',rfl,u0,u1⟩:=(HN12.out.more hg).at htl
                    obtain ⟨x,hx⟩:∃ x,x=ns[t]:=⟨_,rfl⟩
                    rw [←hx] at u1
                    have gx:=Af wr (.cells #[.bool b',.slice A' x c'] 49) none
                    obtain ⟨m0,m1,_⟩:=(Blk.new wr #[.bool b',.slice A' x c'] 49).two
                    have HGX:=Ac (Ae hg gx)
                    by_cases h72:72<x
                    · as_aux_lemma =>
                        have t0:(72:Int)<(x:Int):=by omega
                        have HNW:Hid (It (C6 St f.devs.length) k=false):=Ac (by
                          rw [HWB.out,List.all_eq_false]
                          exact ⟨ns[t],List.getElem_mem _,by rw [←hx];simp;omega⟩)
                        have gall:=Ae HGA5.out (Ae HG5R.out (Ae HG.out (Ae HG12'.out HGX.out)))
                        have hzb:=HZB.out.more gall
                        have z0:=hzb.cell 0
                        have y0:=hzb.free 0
                        simp only [List.getElem?_toArray,List.getElem?_cons_zero] at z0
                        have HGALL:=Ac (Ae HGW.out gall)
                        have HEV:=Ac (Ye HLT.out HNW.out)
                        clear gall hzb gx h72 hx
                        go_wp2_with fail
                        try simp only [Exit.inBlock,Exit.then]
                        refine bodyPost_ret (v:=.tuple #[.agg #[.slice none 0 0],.int .i64 13]) (by simp [results,Tryz.results16,go_sem, *]) rfl ⟨none,0,?_,?_,?_⟩
                        · rw [HEV.out.1,HEV.out.2];rfl
                        · rw [HEV.out.2];exact SysRow.nil _
                        · exact Aw HGALL.out (Au _ _ _ _) (by have:=HSW.out;omega)
                    · as_aux_lemma =>
                        have t0:¬ (72:Int)<(x:Int):=by omega
                        have HX72:Hid (ns[t]≤72):=Ac (by rw [←hx];omega)
                        clear hx gx h72
                        go_wp2_with fail
                        exact ⟨⟨t+1,by omega,by go_num,HGX.out,Ac (fun i hi h=>by
                          by_cases hit:i=t
                          · subst hit;exact HX72.out
                          · exact hle.out i hi (by omega))⟩,by simp [intOf];omega⟩
                  · as_aux_lemma =>
                      obtain rfl:t=ns.length:=by omega
                      have HWK:Hid (It (C6 St f.devs.length) k=true):=Ac (by
                        rw [HWB.out,List.all_eq_true]
                        intro y hy
                        obtain ⟨i,hi,rfl⟩:=List.mem_iff_getElem.1 hy
                        simpa using hle.out i hi hi)
                      have hga:=Ae HG12'.out hg
                      have hblk:=HBLK.out.more hga
                      have hown:=HOWN.out.more hga
                      have hrec:=HREC.out.imp (R':=RowW wr) fun cs a h=>h.step (StayR.none hga)
                      have hrw:=HRW12.out.step (StayR.none hg)
                      have hbr:=HBR12.out.more hg
                      obtain ⟨v0,v1,v2,v3,v4,v5',v6⟩:=hbr.seven
                      have z0:=hblk.cell 0
                      simp only [List.getElem?_toArray,List.getElem?_cons_zero] at z0
                      have hobn:(Value.slice A k c).ownBlock≠some ob:=fun e=>by have:=hown.from _ e;omega
                      have hsb:ob+1≤wr.heap.size:=hblk.lt
                      have HBLK2:=Ac hblk
                      have HOWN2:=Ac hown
                      have HREC2:=Ac hrec
                      have HRW2:=Ac hrw
                      have HOBN:=Ac hobn
                      have HGA:=Ac (Ae HG.out hga)
                      have HCNT:=Ac (hown.count hrec (by omega))
                      clear hblk hown hrec hrw hbr hobn hga
                      have hbs:=Yd R.mneg R.kneg Am Aa Ah As' Ak R.mlimbs.length R.a.length R.h.length R.s.length R.klimbs.length cm ca ch cs' ck
                      go_wp2_with (first
                        | (refine K5 rfl 36 52 (.tmp 120) rfl #[.bool R.mneg,.slice Am R.mlimbs.length cm,.slice Aa R.a.length ca,.slice Ah R.h.length ch,.slice As' R.s.length cs',.bool R.kneg,.slice Ak R.klimbs.length ck] (by rfl) hbs ?_)
                        | (at_builtin;refine Cu (ob+1) rfl (.tmp 119) (.tmp 121) 36 52 (.agg #[.bool false,.slice none 0 0,.slice none 0 0,.slice none 0 0,.slice none 0 0,.bool false,.slice none 0 0]) 7 136 rfl Tryz.underlying36 A0x rfl (by omega) (by omega) (.slice A k c) k xs #[.bool R.mneg,.slice Am R.mlimbs.length cm,.slice Aa R.a.length ca,.slice Ah R.h.length ch,.slice As' R.s.length cs',.bool R.kneg,.slice Ak R.klimbs.length ck] (by rfl) HOWN2.out (by rfl) (by rfl) (by simp [Value.oneCell']) (by omega) hsb (R4 _ _ _ _ _ _ _ _ _ _ _ _ _ _ _ _ _) Sz ?_;intro g cap w15 hown15 hg15;obtain ⟨d0,f0⟩:w15.cell? ⟨ob,0,none⟩=some (.slice A k c)∧w15.frozen? ⟨ob,0,none⟩=false:=⟨((HBLK2.out.more (Af _ _ _)).row hg15 HOBN.out).cell 0,((HBLK2.out.more (Af _ _ _)).row hg15 HOBN.out).free 0⟩;have H15:=Ac (And.intro hown15 hg15);clear hown15 hg15)
                        | fail)
                      have hkn:=HLT.out
                      have hown15:=H15.out.1
                      have hgp:g≠ob:=by have:=hown15.from g rfl;omega
                      have hstr:StayR wr (wr.alloc (.cells #[.bool R.mneg,.slice Am R.mlimbs.length cm,.slice Aa R.a.length ca,.slice Ah R.h.length ch,.slice As' R.s.length cs',.bool R.kneg,.slice Ak R.klimbs.length ck] 52)):=StayR.none (Af _ _ _)
                      have hst2:StayR (wr.alloc (.cells #[.bool R.mneg,.slice Am R.mlimbs.length cm,.slice Aa R.a.length ca,.slice Ah R.h.length ch,.slice As' R.s.length cs',.bool R.kneg,.slice Ak R.klimbs.length ck] 52)) w15:=by
                        have hg15:=H15.out.2
                        by_cases h0:k=0
                        · have hA:=HNIL.out h0
                          subst hA
                          exact StayR.none hg15
                        · cases hA:(Value.slice A k c).ownBlock with
                          | none=>rw [hA] at hg15;exact StayR.none hg15
                          | some gg =>
                            rw [hA] at hg15
                            exact StayR.row hg15 (OwnQ.softRow (R:=RowW (wr.alloc (.cells #[.bool R.mneg,.slice Am R.mlimbs.length cm,.slice Aa R.a.length ca,.slice Ah R.h.length ch,.slice As' R.s.length cs',.bool R.kneg,.slice Ak R.klimbs.length ck] 52))) (HOWN2.out.more (Af _ _ _)) (HREC2.out.imp fun cs a h=>h.step hstr) (fun cs r h=>by obtain ⟨_,_,_,_,_,rfl,_⟩:=h;exact ⟨_,rfl⟩) gg hA (by omega))
                      have hblk15:=(HBLK2.out.more (Af wr (.cells #[.bool R.mneg,.slice Am R.mlimbs.length cm,.slice Aa R.a.length ca,.slice Ah R.h.length ch,.slice As' R.s.length cs',.bool R.kneg,.slice Ak R.klimbs.length ck] 52) none)).row H15.out.2 HOBN.out
                      have hsoft:Soft w15 ob:=⟨by
                        obtain ⟨T,hb⟩:=hblk15
                        refine C1 hb ?_
                        intro u hu n
                        simp at hu
                        subst hu;simp,fun n=>by rw [hblk15.cell 0];simp⟩
                      have hst3:=StayR.row (Au w15 ob 0 (.slice (some ⟨g,0,none⟩) (k+1) cap)) hsoft
                      have hall:=hstr.trans (hst2.trans hst3)
                      refine ⟨⟨k+1,by omega,by go_num,?_,Ac ⟨_,_,_,fun h=>by omega,hblk15.set 0 _,hown15.other (Au w15 ob 0 _) (by simp [Value.ownBlock];exact hgp),?_⟩,Ac (fun r hr=>by
                        by_cases hrk:r=k
                        · subst hrk;exact HWK.out
                        · exact hwide.out r (by omega))⟩,by simp [intOf];omega⟩
                      · exact Aw (Ep (Ae HGA.out (Af _ _ _)) H15.out.2 (HOWN2.out.from.mono (by have:=HOBE.out;omega))) (Au _ _ _ _) (Nat.le_of_eq HOBE.out.symm)
                      · rw [HRS.out]
                        exact RecR.snoc (k:=7) (ys:=(#[.bool R.mneg,.slice Am R.mlimbs.length cm,.slice Aa R.a.length ca,.slice Ah R.h.length ch,.slice As' R.s.length cs',.bool R.kneg,.slice Ak R.klimbs.length ck]:Array Value).toList) rfl (HRW2.out.step hall) (HREC2.out.imp fun cs a h=>h.step hall)
            · as_aux_lemma =>
                obtain rfl:k=n:=by omega
                have hsr:=HOWN.out.sysRow HREC.out
                have z0:=HBLK.out.cell 0
                simp only [List.getElem?_toArray,List.getElem?_cons_zero] at z0
                have gall:=Ae HGA5.out (Ae HG5R.out hg)
                have hzb:=HZB.out.more gall
                have z1:=hzb.cell 0
                have y1:=hzb.free 0
                simp only [List.getElem?_toArray,List.getElem?_cons_zero] at z1
                have HGALL:=Ac (Ae HGW.out gall)
                have HEV:=Ac (Yf hwide.out)
                have HZS:=Ac (A05 hzb)
                have HSR:=Ac hsr
                clear hsr gall hzb hg
                go_wp2_with fail
                try simp only [Exit.inBlock,Exit.then]
                refine bodyPost_ret (v:=.tuple #[.agg #[.slice A k c],.int .i64 0]) (by simp [results,Tryz.results16,go_sem, *]) rfl ⟨A,c,?_,?_,?_⟩
                · rw [HEV.out.1,HEV.out.2,K2]
                · rw [HEV.out.2,K2]
                  have hz:=HZS.out
                  have hfr:=HOWN.out.from
                  refine OwnQ.sysRow (HOWN.out.other (Au _ _ _ _) (fun e=>?_)) (HREC.out.imp fun cs a h=>h.step (StayR.row (Au _ _ _ _) hz))
                  have h1:=hfr _ e
                  have h2:=(Ae HGA5.out HG5R.out).size
                  have h3:=HSZ.out
                  have h4:=HOBE.out
                  omega
                · exact Aw HGALL.out (Au _ _ _ _) (by have:=HSW.out;omega)
end
end Go.Proofs.YtckbiimikeiejaaGreatDoor
