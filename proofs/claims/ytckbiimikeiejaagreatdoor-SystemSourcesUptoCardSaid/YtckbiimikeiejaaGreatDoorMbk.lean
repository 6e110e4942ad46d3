/- GriC. -/
import Derived.Test.YtckbiimikeiejaaGreatDoorMbj
import Derived.Test.YtckbiimikeiejaaGreatDoorMaq
import Derived.Test.YtckbiimikeiejaaGreatDoorMbi
set_option linter.unusedVariables false
set_option linter.unusedSimpArgs false
set_option maxHeartbeats 40000000
namespace Go.Proofs.YtckbiimikeiejaaGreatDoor
section
open Go.RowKit Go.Maps
open Rat
theorem A46 (Q:Int):(Q.tmod 2).natAbs=Q.natAbs % 2:=Int.natAbs_tmod Q 2
theorem A2y:(d16 2).length≤1:=by decide +kernel
theorem A41:(d16 1).length≤1:=by decide +kernel
set_option maxRecDepth 100000 in
theorem A32 (w:World) (v1:Value) (q:Rat) (ha:FQ w v1 q) (K:Nat) (lq:L16 q K) (hK:K≤500000000000) :
    Calls Tryz.prog 241 #[v1] w fun e w'=>∃ nv,e=.returned nv∧NZ w' nv (Ja q.num q.den)∧w.grownBy w' none:=by
  obtain ⟨A1,c1,A2,c2,rfl,h1,h2⟩:=ha.form
  have HD0:Hid (0<(q.den:Int)):=Ac (by have:=q.den_pos;omega)
  have HL:Hid ((d16 q.num).length≤500000000000∧(d16 (q.den:Int)).length≤500000000000):=Ac ⟨Nat.le_trans lq.1 hK,Nat.le_trans lq.2 hK⟩
  have HN1:=Ac h1
  have HN2:=Ac h2
  clear ha lq h1 h2
  generalize q.num=n at *
  generalize (q.den:Int)=d at *
  obtain ⟨V,hV⟩:∃ V,Ja n d=V:=⟨_,rfl⟩
  rw [hV]
  have HV:=Ac hV
  have HLQ:Hid ((d16 (n.tdiv d)).length≤500000000000∧(d16 (n.tmod d)).length≤500000000000):=Ac ⟨Nat.le_trans (Ym (D7 _ _)) HL.out.1,Nat.le_trans (Ym (by rw [Int.natAbs_tmod];exact Nat.mod_le _ _)) HL.out.1⟩
  have HDV:=Ac fun W u v (a:NZ W u n) (b:NZ W v d)=>El W u v n d a b (by have:=HD0.out;omega) (by have:=HL.out.1;omega) (by have:=HL.out.2;omega)
  clear hV hK
  have HDL:=Ac HL.out.2
  generalize hna:(d16 n).length=na at *
  generalize hnb:(d16 d).length=nb at *
  have HNB:=Ac hnb
  clear hna hnb
  generalize decide (n<0)=sa at *
  have hB1:=(Blk.new w #[.bool sa,.slice A1 na c1,.bool false,.slice A2 nb c2] 143).more (Af _ (.cells #[.bool false,.slice none 0 0] 139) none)
  have hB2:=Blk.new (w.alloc (.cells #[.bool sa,.slice A1 na c1,.bool false,.slice A2 nb c2] 143)) #[.bool false,.slice none 0 0] 139
  rw [World.size_alloc] at hB2
  have HGW:=Ac (Ae (Af w (.cells #[.bool sa,.slice A1 na c1,.bool false,.slice A2 nb c2] 143) none) (Af _ (.cells #[.bool false,.slice none 0 0] 139) none))
  have HN1:=Ac (HN1.out.more HGW.out)
  have HN2:=Ac (HN2.out.more HGW.out)
  have HP:=Ac hB1
  have HZ:=Ac hB2
  clear hB1 hB2
  go_enter Tryz.func241,Tryz.ntmps241
  go_wp2_with fail
  generalize (w.alloc (.cells #[.bool sa,.slice A1 na c1,.bool false,.slice A2 nb c2] 143)).alloc (.cells #[.bool false,.slice none 0 0] 139)=wa at *
  generalize hs:w.heap.size=s at *
  have HS:=Ac hs
  clear hs
  refine (F6 wa 2 (by omega)).mono ?_
  rintro e w1 ⟨v2,rfl,hv2,hg1⟩
  obtain ⟨A3,c3,rfl,hd3⟩:=NZ.form (z:=2) hv2
  have ga:=Af w1 (.cells #[.bool false,.slice A3 (d16 2).length c3] 139) none
  have HT2:=Ac (Blk.new w1 #[.bool false,.slice A3 (d16 2).length c3] 139)
  have HN3:Hid (NZ (w1.alloc (.cells #[.bool false,.slice A3 (d16 2).length c3] 139)) (.agg #[.bool false,.slice A3 (d16 2).length c3]) 2):=Ac (NZ.more hv2 ga)
  have HG2:=Ac (Ae hg1 ga)
  obtain ⟨x0,x1,x2,x3,_⟩:=(HP.out.more HG2.out).four
  clear hv2 hd3 hg1 ga
  generalize (d16 2).length=n3 at *
  go_wp2_with fail
  generalize w1.alloc (.cells #[.bool false,.slice A3 n3 c3] 139)=w2 at *
  generalize w1.heap.size=t2 at *
  refine (HDV.out w2 _ _ (HN1.out.more HG2.out) (HN2.out.more HG2.out)).mono ?_
  rintro e w3 ⟨u4,u5,rfl,hv4,hv5,hg3⟩
  obtain ⟨A4,c4,rfl,hd4⟩:=hv4.form
  obtain ⟨A5,c5,rfl,hd5⟩:=hv5.form
  have HQ4:=Ac (U0 w3 #[.bool (decide (n.tdiv d<0)),.slice A4 (d16 (n.tdiv d)).length c4] #[.bool (decide (n.tmod d<0)),.slice A5 (d16 (n.tmod d)).length c5] 139 139)
  have HNQ:=Ac hv4
  have HNR:=Ac hv5
  have HG3:=Ac (Ae HG2.out hg3)
  have HT2:=Ac (HT2.out.more hg3)
  have HW23:=Ac hg3
  clear hv4 hv5 hd4 hd5 hg3 x0 x1 x2 x3
  generalize hQQ:n.tdiv d=Q at *
  generalize hRR:n.tmod d=R at *
  have HQR:=Ac (And.intro hQQ hRR)
  clear hQQ hRR
  generalize hn4:(d16 Q).length=n4 at *
  generalize hn5:(d16 R).length=n5 at *
  have HLN:=Ac (And.intro hn4 hn5)
  clear hn4 hn5
  generalize decide (Q<0)=s4 at *
  generalize decide (R<0)=s5 at *
  go_upto_region 3 with (fail)
  have HG4:Hid (wa.grownBy ((w3.alloc (.cells #[.bool s4,.slice A4 n4 c4] 139)).alloc (.cells #[.bool s5,.slice A5 n5 c5] 139)) none):=Ac (Ae HG3.out (Ae (Af _ _ _) (Af _ _ _)))
  have HT2:=Ac (HT2.out.more (Ae (Af w3 (.cells #[.bool s4,.slice A4 n4 c4] 139) none) (Af _ (.cells #[.bool s5,.slice A5 n5 c5] 139) none)))
  have HBQ:Hid (Blk ((w3.alloc (.cells #[.bool s4,.slice A4 n4 c4] 139)).alloc (.cells #[.bool s5,.slice A5 n5 c5] 139)) w3.heap.size #[.bool s4,.slice A4 n4 c4]):=Ac ((Blk.new w3 _ _).more (Af _ _ _))
  have HBR:Hid (Blk ((w3.alloc (.cells #[.bool s4,.slice A4 n4 c4] 139)).alloc (.cells #[.bool s5,.slice A5 n5 c5] 139)) (w3.heap.size+1) #[.bool s5,.slice A5 n5 c5]):=Ac (by have h:=Blk.new (w3.alloc (.cells #[.bool s4,.slice A4 n4 c4] 139)) #[.bool s5,.slice A5 n5 c5] 139;rw [World.size_alloc] at h;exact h)
  have HW24:Hid (w2.grownBy ((w3.alloc (.cells #[.bool s4,.slice A4 n4 c4] 139)).alloc (.cells #[.bool s5,.slice A5 n5 c5] 139)) none):=Ac (Ae HW23.out (Ae (Af _ _ _) (Af _ _ _)))
  have HW3:Hid (w3.grownBy ((w3.alloc (.cells #[.bool s4,.slice A4 n4 c4] 139)).alloc (.cells #[.bool s5,.slice A5 n5 c5] 139)) none):=Ac (Ae (Af _ _ _) (Af _ _ _))
  have HKQ:Hid (∀ W,((w3.alloc (.cells #[.bool s4,.slice A4 n4 c4] 139)).alloc (.cells #[.bool s5,.slice A5 n5 c5] 139)).grownBy W none→∀ w' cs b,Blk W b cs→(∀ u∈cs.toList,∀ n,u≠.int .i64 n)→W.grownBy w' (some b)→NZ w' (.agg #[.bool s4,.slice A4 n4 c4]) Q):=Ac fun W hW w' cs b h hn hg=>by
    obtain ⟨A,c,e,hk⟩:=(HNQ.out.more (Ae HW3.out hW)).res
    exact hk w' cs b h hn hg
  have HNQ:=Ac (HNQ.out.more HW3.out)
  have HNR:=Ac (HNR.out.more HW3.out)
  clear HQ4
  generalize (w3.alloc (.cells #[.bool s4,.slice A4 n4 c4] 139)).alloc (.cells #[.bool s5,.slice A5 n5 c5] 139)=w4 at *
  generalize ht4:w3.heap.size=t4 at *
  have HT4:Hid (s+1<t4):=Ac (by have a:=HZ.out.lt;have b:=HG3.out.size;omega)
  clear ht4
  obtain ⟨x0,x1,_⟩:=HBR.out.two
  obtain ⟨y0,y1,_⟩:=HT2.out.two
  have HN3:=Ac (HN3.out.more HW24.out)
  have HL2:Hid ((d16 (R.natAbs:Int)).length≤1099511627776∧(d16 2).length≤1099511627776):=Ac ⟨by have:=Ym (x:=(R.natAbs:Int)) (y:=R) (by simp);have:=HLQ.out.2;have:=HLN.out.2;omega,by have:=A2y;omega⟩
  have HKK:=Ac (fun W (h:w4.grownBy W none)=>(⟨Aj h x0 (by simp),Aj h x1 (by simp),Aj h y0 (by simp),Aj h y1 (by simp)⟩:W.cell? ⟨t4+1,0,none⟩=some (.bool s5)∧W.cell? ⟨t4+1,1,none⟩=some (.slice A5 n5 c5)∧W.cell? ⟨t2,0,none⟩=some (.bool false)∧W.cell? ⟨t2,1,none⟩=some (.slice A3 n3 c3)))
  have HL6:Hid ((d16 ((R.natAbs:Int)*2)).length≤1099511627776):=Ac (by have:=Hl (R.natAbs:Int) 2;have:=HL2.out.1;have:=Ym (x:=(R.natAbs:Int)) (y:=R) (by simp);have:=HLQ.out.2;have:=HLN.out.2;have:=A2y;omega)
  have HLD:Hid ((d16 d).length≤1099511627776):=Ac (by have:=HDL.out;have:=HNB.out;omega)
  have HL7:Hid ((d16 Q).length≤1099511627776∧(d16 2).length≤1099511627775):=Ac ⟨by have:=HLQ.out.1;have:=HLN.out.1;omega,by have:=A2y;omega⟩
  have HL1:Hid ((d16 1).length≤1099511627776):=Ac (by have:=A41;omega)
  go_cut [6] (fun a wx=>∃ b,a=.pointer (some ⟨b,0,none⟩)∧w4.grownBy wx none∧Hid (NB wx b ((R.natAbs:Int)*2)))
  case first =>
    go_region_held3 (fun W=>W.cell? ⟨t4+1,0,none⟩=some (.bool s5)∧W.cell? ⟨t4+1,1,none⟩=some (.slice A5 n5 c5)∧W.cell? ⟨t2,0,none⟩=some (.bool false)∧W.cell? ⟨t2,1,none⟩=some (.slice A3 n3 c3)) (first | (refine HKK.out _ ?_;(focus ((repeat (first | assumption | exact Al _ _ | exact Ai _ _ | exact Af _ _ _ | refine Ae ?_ (Af _ _ _) | refine Ae ?_ (Ai _ _) | refine Ae ?_ (by assumption)));done));done) | exact HKK.out _ (Aw (show w4.grownBy w6 none by (focus ((repeat (first | assumption | exact Al _ _ | exact Ai _ _ | exact Af _ _ _ | refine Ae ?_ (Af _ _ _) | refine Ae ?_ (Ai _ _) | refine Ae ?_ (by assumption)));done))) (Ae (Au _ _ _ _) (Au _ _ _ _)) (by first | exact Nat.le_refl _ | exact (show w4.grownBy w5 none by (focus ((repeat (first | assumption | exact Al _ _ | exact Ai _ _ | exact Af _ _ _ | refine Ae ?_ (Af _ _ _) | refine Ae ?_ (Ai _ _) | refine Ae ?_ (by assumption)));done))).size)))
     (first
     | (go_at_call 198;refine (Tw (w4.alloc (.cells #[.bool false,.slice none 0 0] 139)).drew _ R (HNR.out.more (by (focus ((repeat (first | assumption | exact Al _ _ | exact Ai _ _ | exact Af _ _ _ | refine Ae ?_ (Af _ _ _) | refine Ae ?_ (Ai _ _) | refine Ae ?_ (by assumption)));done))))).mono ?_;rintro e w5 ⟨v5,rfl,hv5,hg5⟩;have hb9:=(Blk.new w4 #[.bool false,.slice none 0 0] 139).more (Ae (Ai _ none) hg5))
     | (go_at_call 198;refine (Tw _ _ R (HNR.out.more (by (focus ((repeat (first | assumption | exact Al _ _ | exact Ai _ _ | exact Af _ _ _ | refine Ae ?_ (Af _ _ _) | refine Ae ?_ (Ai _ _) | refine Ae ?_ (by assumption)));done))))).mono ?_;rintro e w5 ⟨v5,rfl,hv5,hg5⟩)
     | (go_at_call 146;refine (Eg (w5.alloc (.cells #[.bool false,.slice none 0 0] 139)) _ _ (R.natAbs:Int) 2 (hv5.more (by (focus ((repeat (first | assumption | exact Al _ _ | exact Ai _ _ | exact Af _ _ _ | refine Ae ?_ (Af _ _ _) | refine Ae ?_ (Ai _ _) | refine Ae ?_ (by assumption)));done)))) (HN3.out.more (by (focus ((repeat (first | assumption | exact Al _ _ | exact Ai _ _ | exact Af _ _ _ | refine Ae ?_ (Af _ _ _) | refine Ae ?_ (Ai _ _) | refine Ae ?_ (by assumption)));done)))) HL2.out.1 HL2.out.2).mono ?_;rintro e w6 ⟨v6,rfl,hv6,hg6⟩;obtain ⟨A6,c6,rfl,hd6⟩:=hv6.form;have hb9:=(Blk.new w5 #[.bool false,.slice none 0 0] 139).more hg6;obtain ⟨z0,z1,f0,f1⟩:=hb9.two)
     | (go_at_call 146;refine (Eg _ _ _ (R.natAbs:Int) 2 (hv5.more (by (focus ((repeat (first | assumption | exact Al _ _ | exact Ai _ _ | exact Af _ _ _ | refine Ae ?_ (Af _ _ _) | refine Ae ?_ (Ai _ _) | refine Ae ?_ (by assumption)));done)))) (HN3.out.more (by (focus ((repeat (first | assumption | exact Al _ _ | exact Ai _ _ | exact Af _ _ _ | refine Ae ?_ (Af _ _ _) | refine Ae ?_ (Ai _ _) | refine Ae ?_ (by assumption)));done)))) HL2.out.1 HL2.out.2).mono ?_;rintro e w6 ⟨v6,rfl,hv6,hg6⟩;obtain ⟨A6,c6,rfl,hd6⟩:=hv6.form;have hb9:=hb9.more hg6;obtain ⟨z0,z1,f0,f1⟩:=hb9.two)
     | (go_at_call 146;refine (Eg _ _ _ (R.natAbs:Int) 2 (hv5.more (by (focus ((repeat (first | assumption | exact Al _ _ | exact Ai _ _ | exact Af _ _ _ | refine Ae ?_ (Af _ _ _) | refine Ae ?_ (Ai _ _) | refine Ae ?_ (by assumption)));done)))) (HN3.out.more (by (focus ((repeat (first | assumption | exact Al _ _ | exact Ai _ _ | exact Af _ _ _ | refine Ae ?_ (Af _ _ _) | refine Ae ?_ (Ai _ _) | refine Ae ?_ (by assumption)));done)))) HL2.out.1 HL2.out.2).mono ?_;rintro e w6 ⟨v6,rfl,hv6,hg6⟩;obtain ⟨A6,c6,rfl,hd6⟩:=hv6.form)
     | (fail))
    all_goals
      go_wp2_with fail
      go_meet
      first
      | exact ⟨_,rfl,Ae (show w4.grownBy w6 none by (focus ((repeat (first | assumption | exact Al _ _ | exact Ai _ _ | exact Af _ _ _ | refine Ae ?_ (Af _ _ _) | refine Ae ?_ (Ai _ _) | refine Ae ?_ (by assumption)));done))) (Af _ _ _),Ac ⟨A6,c6,Blk.new _ _ _,hd6.more (Af _ _ _)⟩⟩
      | exact ⟨_,rfl,Aw (show w4.grownBy w6 none by (focus ((repeat (first | assumption | exact Al _ _ | exact Ai _ _ | exact Af _ _ _ | refine Ae ?_ (Af _ _ _) | refine Ae ?_ (Ai _ _) | refine Ae ?_ (by assumption)));done))) (Ae (Au _ _ _ _) (Au _ _ _ _)) (by first | exact Nat.le_refl _ | exact (show w4.grownBy w5 none by (focus ((repeat (first | assumption | exact Al _ _ | exact Ai _ _ | exact Af _ _ _ | refine Ae ?_ (Af _ _ _) | refine Ae ?_ (Ai _ _) | refine Ae ?_ (by assumption)));done))).size),Ac ⟨A6,c6,(hb9.set 0 _).set 1 _,hd6.keep hb9 (by simp) (Ae (Au _ _ _ _) (Au _ _ _ _))⟩⟩
  case rest =>
    obtain ⟨t6,rfl,hg,hh⟩:=hcut
    obtain ⟨wk,rfl⟩:∃ wk:World,wk=wc:=⟨_,rfl⟩
    have HT6:=hh
    have HG5:=Ac (Ae HG4.out hg)
    have HW4:=Ac hg
    obtain ⟨A6,c6,b6,n6,d6⟩:=HT6.out.nz
    obtain ⟨z0,z1,_⟩:=b6.two
    obtain ⟨x0,x1,x2,x3,_⟩:=(HP.out.more HG5.out).four
    have HN6:=Ac n6
    clear hg hh b6 n6 d6 y0 y1
    go_wp2_with fail
    have hC:=Rj wk _ _ ((R.natAbs:Int)*2) d HN6.out (HN2.out.more HG5.out) HL6.out HLD.out
    obtain ⟨C,hCC⟩:∃ C:Int,(if (R.natAbs:Int)*2-d=0 then (0:Int) else if (R.natAbs:Int)*2-d<0 then -1 else 1)=C:=⟨_,rfl⟩
    rw [hCC] at hC
    have HC:=Ac hCC
    clear hCC
    refine hC.mono ?_
    rintro e w7 ⟨rfl,hg7⟩
    have HG7:=Ac (Ae HG5.out hg7)
    have HW7:=Ac (Ae HW4.out hg7)
    obtain ⟨y0,y1,_⟩:=(HBQ.out.more HW7.out).two
    obtain ⟨t0,t1,_⟩:=(HT2.out.more HW7.out).two
    clear hg7 z0 z1 x0 x1 x2 x3 hC
    go_wp2_with fail
    refine (El w7 _ _ Q 2 (HNQ.out.more HW7.out) (HN3.out.more HW7.out) (by omega) HL7.out.1 HL7.out.2).mono ?_
    rintro e w8 ⟨u8,u9,rfl,hv8,hv9,hg8⟩
    obtain ⟨A8,c8,rfl,hd8⟩:=hv8.form
    obtain ⟨A9,c9,rfl,hd9⟩:=hv9.form
    have HO:=Ac hv9
    have HG8:=Ac (Ae HG7.out hg8)
    have HW8:=Ac (Ae HW7.out hg8)
    clear hv8 hd8 hd9 hg8 y0 y1 t0 t1 hv9
    generalize hOD:Q.tmod 2=OD at *
    have HOD:=Ac hOD
    clear hOD
    generalize decide (Q.tdiv 2<0)=s8 at *
    generalize (d16 (Q.tdiv 2)).length=n8 at *
    generalize decide (OD<0)=s9 at *
    generalize (d16 OD).length=n9 at *
    go_upto_region 6 with (fail)
    have HA:=Ac (Ae (Af w8 (.cells #[.bool s8,.slice A8 n8 c8] 139) none) (Af _ (.cells #[.bool s9,.slice A9 n9 c9] 139) none))
    have hB9:=Blk.new (w8.alloc (.cells #[.bool s8,.slice A8 n8 c8] 139)) #[.bool s9,.slice A9 n9 c9] 139
    rw [World.size_alloc] at hB9
    have HB9:=Ac hB9
    have HO:=Ac (HO.out.more HA.out)
    have HG9:=Ac (Ae HG8.out HA.out)
    have HW9:=Ac (Ae HW8.out HA.out)
    clear hB9 HA
    generalize (w8.alloc (.cells #[.bool s8,.slice A8 n8 c8] 139)).alloc (.cells #[.bool s9,.slice A9 n9 c9] 139)=w9 at *
    generalize w8.heap.size=t8 at *
    have HND:=Ac (show Ja n d=if d<2*((n.tmod d).natAbs:Int)∨(2*((n.tmod d).natAbs:Int)=d∧(n.tdiv d).natAbs % 2=1) then n.tdiv d+n.sign else n.tdiv d from rfl)
    rw [HQR.out.1,HQR.out.2,HV.out] at HND
    have hcase:(C=1∧d<2*(R.natAbs:Int))∨(C=0∧2*(R.natAbs:Int)=d)∨(C = -1∧2*(R.natAbs:Int)<d):=by
      have:=HC.out
      split at this
      · exact .inr (.inl ⟨this.symm,by omega⟩)
      · split at this
        · exact .inr (.inr ⟨this.symm,by omega⟩)
        · exact .inl ⟨this.symm,by omega⟩
    rcases hcase with ⟨rfl,hc⟩ | ⟨rfl,hc⟩ | ⟨rfl,hc⟩
    · have HR:=Ac (HND.out.trans (if_pos (.inl hc)))
      have HN0:Hid (n≠0):=Ac (fun h=>by have:=HQR.out.2;rw [h,Int.zero_tmod] at this;have:=HD0.out;omega)
      clear hc
      have HRX:=HR
      have HWXX:=Ac HW9.out
      have HGXX:=Ac HG9.out
      obtain ⟨x0,x1,x2,x3,_⟩:=(HP.out.more HGXX.out).four
      have hSG:=Mc w9 _ n (HN1.out.more HGXX.out)
      by_cases hn0:n<0
      · have HR:=Ac (show V=Q-1 by rw [HRX.out,Int.sign_eq_neg_one_of_neg hn0];omega)
        rw [if_neg HN0.out,if_pos hn0] at hSG
        clear hn0
        go_wp2_with fail
        refine hSG.mono ?_
        rintro e w11 ⟨rfl,hg11⟩
        have HG11:=Ac (Ae HGXX.out hg11)
        have HW11:=Ac (Ae HWXX.out hg11)
        obtain ⟨y0,y1,_⟩:=(HBQ.out.more HW11.out).two
        clear hg11 x0 x1 x2 x3 hSG
        go_wp2_with fail
        have HKK:=Ac (fun W (h:w11.grownBy W none)=>(⟨Aj h y0 (by simp),Aj h y1 (by simp)⟩:W.cell? ⟨t4,0,none⟩=some (.bool s4)∧W.cell? ⟨t4,1,none⟩=some (.slice A4 n4 c4)))
        have ne1:t4≠s+1:=by have:=HT4.out;omega
        have ne2:s+1≠t4:=by have:=HT4.out;omega
        go_region_held3 (fun W=>W.cell? ⟨t4,0,none⟩=some (.bool s4)∧W.cell? ⟨t4,1,none⟩=some (.slice A4 n4 c4)) (first | go_keep | exact HKK.out _ (by (focus ((repeat (first | assumption | exact Al _ _ | exact Ai _ _ | exact Af _ _ _ | refine Ae ?_ (Af _ _ _) | refine Ae ?_ (Ai _ _) | refine Ae ?_ (by assumption)));done))))
         (first
         | (go_at_call 192;refine (F6 _ 1 (by omega)).mono ?_;rintro e w10 ⟨v10,rfl,hv10,hg10⟩)
         | (go_at_call 249;refine (Rk _ _ _ Q 1 (HNQ.out.more (Ae HW11.out (by (focus ((repeat (first | assumption | exact Al _ _ | exact Ai _ _ | exact Af _ _ _ | refine Ae ?_ (Af _ _ _) | refine Ae ?_ (Ai _ _) | refine Ae ?_ (by assumption)));done))))) (NZ.more (z:=1) hv10 (by (focus ((repeat (first | assumption | exact Al _ _ | exact Ai _ _ | exact Af _ _ _ | refine Ae ?_ (Af _ _ _) | refine Ae ?_ (Ai _ _) | refine Ae ?_ (by assumption)));done)))) HL7.out.1 HL1.out).mono ?_;rintro e w4 ⟨v4,rfl,hv4,hg4⟩;rw [←HR.out] at hv4;obtain ⟨A5,c5,rfl,hkk⟩:=hv4.res;have HB4:=Ac (HZ.out.more (Ae HG11.out (show w11.grownBy w4 none by (focus ((repeat (first | assumption | exact Al _ _ | exact Ai _ _ | exact Af _ _ _ | refine Ae ?_ (Af _ _ _) | refine Ae ?_ (Ai _ _) | refine Ae ?_ (by assumption)));done)))));obtain ⟨z0,z1,f0,f1⟩:=HB4.out.two)
         | (fail))
        all_goals
          generalize decide (V<0)=sr at *
          generalize (d16 V).length=nr at *
          go_wp2_with fail
          try simp only [Exit.inBlock,Exit.then]
          obtain ⟨w5,hw5⟩:∃ W,W=((w4.setCell ⟨s+1,0,none⟩ (.bool sr)).setCell ⟨s+1,1,none⟩ (.slice A5 nr c5)):=⟨_,rfl⟩
          rw [←hw5]
          have hB5:Blk w5 (s+1) #[.bool sr,.slice A5 nr c5]:=by rw [hw5];exact (HB4.out.set 0 _).set 1 _
          have hG5:w4.grownBy w5 (some (s+1)):=by rw [hw5];exact Ae (Au _ _ _ _) (Au _ _ _ _)
          clear z0 z1 f0 f1 hw5
          obtain ⟨z0,z1,_⟩:=hB5.two
          refine bodyPost_ret (v:=.agg #[.bool sr,.slice A5 nr c5]) (by simp [results,Tryz.results241,go_sem,z0,z1]) rfl ⟨_,rfl,hkk _ _ _ HB4.out (by simp) hG5,Aw (Ae HGW.out (Ae HG11.out (show w11.grownBy w4 none by (focus ((repeat (first | assumption | exact Al _ _ | exact Ai _ _ | exact Af _ _ _ | refine Ae ?_ (Af _ _ _) | refine Ae ?_ (Ai _ _) | refine Ae ?_ (by assumption)));done))))) hG5 (by have:=HS.out;omega)⟩
      · have HR:=Ac (show V=Q+1 by rw [HRX.out,Int.sign_eq_one_of_pos (by have:=HN0.out;omega)])
        rw [if_neg HN0.out,if_neg hn0] at hSG
        clear hn0
        go_wp2_with fail
        refine hSG.mono ?_
        rintro e w11 ⟨rfl,hg11⟩
        have HG11:=Ac (Ae HGXX.out hg11)
        have HW11:=Ac (Ae HWXX.out hg11)
        obtain ⟨y0,y1,_⟩:=(HBQ.out.more HW11.out).two
        clear hg11 x0 x1 x2 x3 hSG
        go_wp2_with fail
        have HKK:=Ac (fun W (h:w11.grownBy W none)=>(⟨Aj h y0 (by simp),Aj h y1 (by simp)⟩:W.cell? ⟨t4,0,none⟩=some (.bool s4)∧W.cell? ⟨t4,1,none⟩=some (.slice A4 n4 c4)))
        have ne1:t4≠s+1:=by have:=HT4.out;omega
        have ne2:s+1≠t4:=by have:=HT4.out;omega
        go_region_held3 (fun W=>W.cell? ⟨t4,0,none⟩=some (.bool s4)∧W.cell? ⟨t4,1,none⟩=some (.slice A4 n4 c4)) (first | go_keep | exact HKK.out _ (by (focus ((repeat (first | assumption | exact Al _ _ | exact Ai _ _ | exact Af _ _ _ | refine Ae ?_ (Af _ _ _) | refine Ae ?_ (Ai _ _) | refine Ae ?_ (by assumption)));done))))
         (first
         | (go_at_call 192;refine (F6 _ 1 (by omega)).mono ?_;rintro e w10 ⟨v10,rfl,hv10,hg10⟩)
         | (go_at_call 159;refine (Rl _ _ _ Q 1 (HNQ.out.more (Ae HW11.out (by (focus ((repeat (first | assumption | exact Al _ _ | exact Ai _ _ | exact Af _ _ _ | refine Ae ?_ (Af _ _ _) | refine Ae ?_ (Ai _ _) | refine Ae ?_ (by assumption)));done))))) (NZ.more (z:=1) hv10 (by (focus ((repeat (first | assumption | exact Al _ _ | exact Ai _ _ | exact Af _ _ _ | refine Ae ?_ (Af _ _ _) | refine Ae ?_ (Ai _ _) | refine Ae ?_ (by assumption)));done)))) HL7.out.1 HL1.out).mono ?_;rintro e w4 ⟨v4,rfl,hv4,hg4⟩;rw [←HR.out] at hv4;obtain ⟨A5,c5,rfl,hkk⟩:=hv4.res;have HB4:=Ac (HZ.out.more (Ae HG11.out (show w11.grownBy w4 none by (focus ((repeat (first | assumption | exact Al _ _ | exact Ai _ _ | exact Af _ _ _ | refine Ae ?_ (Af _ _ _) | refine Ae ?_ (Ai _ _) | refine Ae ?_ (by assumption)));done)))));obtain ⟨z0,z1,f0,f1⟩:=HB4.out.two)
         | (fail))
        all_goals
          generalize decide (V<0)=sr at *
          generalize (d16 V).length=nr at *
          go_wp2_with fail
          try simp only [Exit.inBlock,Exit.then]
          obtain ⟨w5,hw5⟩:∃ W,W=((w4.setCell ⟨s+1,0,none⟩ (.bool sr)).setCell ⟨s+1,1,none⟩ (.slice A5 nr c5)):=⟨_,rfl⟩
          rw [←hw5]
          have hB5:Blk w5 (s+1) #[.bool sr,.slice A5 nr c5]:=by rw [hw5];exact (HB4.out.set 0 _).set 1 _
          have hG5:w4.grownBy w5 (some (s+1)):=by rw [hw5];exact Ae (Au _ _ _ _) (Au _ _ _ _)
          clear z0 z1 f0 f1 hw5
          obtain ⟨z0,z1,_⟩:=hB5.two
          refine bodyPost_ret (v:=.agg #[.bool sr,.slice A5 nr c5]) (by simp [results,Tryz.results241,go_sem,z0,z1]) rfl ⟨_,rfl,hkk _ _ _ HB4.out (by simp) hG5,Aw (Ae HGW.out (Ae HG11.out (show w11.grownBy w4 none by (focus ((repeat (first | assumption | exact Al _ _ | exact Ai _ _ | exact Af _ _ _ | refine Ae ?_ (Af _ _ _) | refine Ae ?_ (Ai _ _) | refine Ae ?_ (by assumption)));done))))) hG5 (by have:=HS.out;omega)⟩
    · have HO1:=Ac (fun (h:OD≠0)=>HND.out.trans (if_pos (.inr ⟨hc,by have:=A46 Q;rw [HOD.out] at this;omega⟩)))
      have HO2:=Ac (fun (h:OD=0)=>HND.out.trans (if_neg (by have:=A46 Q;rw [HOD.out] at this;omega)))
      have HN0:Hid (n≠0):=Ac (fun h=>by have:=HQR.out.2;rw [h,Int.zero_tmod] at this;have:=HD0.out;omega)
      clear hc
      have hSO:=Mc w9 _ OD HO.out
      obtain ⟨y0,y1,_⟩:=HB9.out.two
      by_cases hO:OD=0
      · rw [if_pos hO] at hSO
        have HR:=Ac (HO2.out hO)
        clear hO
        go_wp2_with fail
        refine hSO.mono ?_
        rintro e w10 ⟨rfl,hg10⟩
        have HG10:=Ac (Ae HG9.out hg10)
        have HW10:=Ac (Ae HW9.out hg10)
        clear hg10 y0 y1 hSO
        obtain ⟨y0,y1,_⟩:=(HBQ.out.more HW10.out).two
        have HB4:=Ac (HZ.out.more HG10.out)
        obtain ⟨z0,z1,f0,f1⟩:=HB4.out.two
        obtain ⟨hkk⟩:Nonempty (∀ w' cs b,Blk w10 b cs→(∀ u∈cs.toList,∀ n,u≠.int .i64 n)→w10.grownBy w' (some b)→NZ w' (.agg #[.bool s4,.slice A4 n4 c4]) Q):=⟨fun w' cs b h hn hg=>(HKQ.out w10 HW10.out w' cs b h hn hg)⟩
        have HKZ:=Ac hkk
        clear hkk
        go_wp2_with fail
        try simp only [Exit.inBlock,Exit.then]
        obtain ⟨w5,hw5⟩:∃ W,W=((w10.setCell ⟨s+1,0,none⟩ (.bool s4)).setCell ⟨s+1,1,none⟩ (.slice A4 n4 c4)):=⟨_,rfl⟩
        rw [←hw5]
        have hB5:Blk w5 (s+1) #[.bool s4,.slice A4 n4 c4]:=by rw [hw5];exact (HB4.out.set 0 _).set 1 _
        have hG5:w10.grownBy w5 (some (s+1)):=by rw [hw5];exact Ae (Au _ _ _ _) (Au _ _ _ _)
        clear z0 z1 f0 f1 hw5
        obtain ⟨z0,z1,_⟩:=hB5.two
        refine bodyPost_ret (v:=.agg #[.bool s4,.slice A4 n4 c4]) (by simp [results,Tryz.results241,go_sem,z0,z1]) rfl ⟨_,rfl,by rw [HR.out];exact HKZ.out _ _ _ HB4.out (by simp) hG5,Aw (Ae HGW.out HG10.out) hG5 (by have:=HS.out;omega)⟩
      · have HRX:=Ac (HO1.out hO)
        rw [if_neg hO] at hSO
        obtain ⟨E,hE,hE0⟩:∃ E:Int,(if OD<0 then (-1:Int) else 1)=E∧(E != 0)=true:=⟨_,rfl,by split<;>rfl⟩
        rw [hE] at hSO
        clear hE hO
        go_wp2_with fail
        refine hSO.mono ?_
        rintro e w10 ⟨rfl,hg10⟩
        have HG10:=Ac (Ae HG9.out hg10)
        have HW10:=Ac (Ae HW9.out hg10)
        clear hg10 y0 y1 hSO
        have HWXX:=Ac HW10.out
        have HGXX:=Ac HG10.out
        obtain ⟨x0,x1,x2,x3,_⟩:=(HP.out.more HGXX.out).four
        have hSG:=Mc w10 _ n (HN1.out.more HGXX.out)
        by_cases hn0:n<0
        · have HR:=Ac (show V=Q-1 by rw [HRX.out,Int.sign_eq_neg_one_of_neg hn0];omega)
          rw [if_neg HN0.out,if_pos hn0] at hSG
          clear hn0
          go_wp2_with fail
          refine hSG.mono ?_
          rintro e w11 ⟨rfl,hg11⟩
          have HG11:=Ac (Ae HGXX.out hg11)
          have HW11:=Ac (Ae HWXX.out hg11)
          obtain ⟨y0,y1,_⟩:=(HBQ.out.more HW11.out).two
          clear hg11 x0 x1 x2 x3 hSG
          go_wp2_with fail
          have HKK:=Ac (fun W (h:w11.grownBy W none)=>(⟨Aj h y0 (by simp),Aj h y1 (by simp)⟩:W.cell? ⟨t4,0,none⟩=some (.bool s4)∧W.cell? ⟨t4,1,none⟩=some (.slice A4 n4 c4)))
          have ne1:t4≠s+1:=by have:=HT4.out;omega
          have ne2:s+1≠t4:=by have:=HT4.out;omega
          go_region_held3 (fun W=>W.cell? ⟨t4,0,none⟩=some (.bool s4)∧W.cell? ⟨t4,1,none⟩=some (.slice A4 n4 c4)) (first | go_keep | exact HKK.out _ (by (focus ((repeat (first | assumption | exact Al _ _ | exact Ai _ _ | exact Af _ _ _ | refine Ae ?_ (Af _ _ _) | refine Ae ?_ (Ai _ _) | refine Ae ?_ (by assumption)));done))))
           (first
           | (go_at_call 192;refine (F6 _ 1 (by omega)).mono ?_;rintro e w10 ⟨v10,rfl,hv10,hg10⟩)
           | (go_at_call 249;refine (Rk _ _ _ Q 1 (HNQ.out.more (Ae HW11.out (by (focus ((repeat (first | assumption | exact Al _ _ | exact Ai _ _ | exact Af _ _ _ | refine Ae ?_ (Af _ _ _) | refine Ae ?_ (Ai _ _) | refine Ae ?_ (by assumption)));done))))) (NZ.more (z:=1) hv10 (by (focus ((repeat (first | assumption | exact Al _ _ | exact Ai _ _ | exact Af _ _ _ | refine Ae ?_ (Af _ _ _) | refine Ae ?_ (Ai _ _) | refine Ae ?_ (by assumption)));done)))) HL7.out.1 HL1.out).mono ?_;rintro e w4 ⟨v4,rfl,hv4,hg4⟩;rw [←HR.out] at hv4;obtain ⟨A5,c5,rfl,hkk⟩:=hv4.res;have HB4:=Ac (HZ.out.more (Ae HG11.out (show w11.grownBy w4 none by (focus ((repeat (first | assumption | exact Al _ _ | exact Ai _ _ | exact Af _ _ _ | refine Ae ?_ (Af _ _ _) | refine Ae ?_ (Ai _ _) | refine Ae ?_ (by assumption)));done)))));obtain ⟨z0,z1,f0,f1⟩:=HB4.out.two)
           | (fail))
          all_goals
            generalize decide (V<0)=sr at *
            generalize (d16 V).length=nr at *
            go_wp2_with fail
            try simp only [Exit.inBlock,Exit.then]
            obtain ⟨w5,hw5⟩:∃ W,W=((w4.setCell ⟨s+1,0,none⟩ (.bool sr)).setCell ⟨s+1,1,none⟩ (.slice A5 nr c5)):=⟨_,rfl⟩
            rw [←hw5]
            have hB5:Blk w5 (s+1) #[.bool sr,.slice A5 nr c5]:=by rw [hw5];exact (HB4.out.set 0 _).set 1 _
            have hG5:w4.grownBy w5 (some (s+1)):=by rw [hw5];exact Ae (Au _ _ _ _) (Au _ _ _ _)
            clear z0 z1 f0 f1 hw5
            obtain ⟨z0,z1,_⟩:=hB5.two
            refine bodyPost_ret (v:=.agg #[.bool sr,.slice A5 nr c5]) (by simp [results,Tryz.results241,go_sem,z0,z1]) rfl ⟨_,rfl,hkk _ _ _ HB4.out (by simp) hG5,Aw (Ae HGW.out (Ae HG11.out (show w11.grownBy w4 none by (focus ((repeat (first | assumption | exact Al _ _ | exact Ai _ _ | exact Af _ _ _ | refine Ae ?_ (Af _ _ _) | refine Ae ?_ (Ai _ _) | refine Ae ?_ (by assumption)));done))))) hG5 (by have:=HS.out;omega)⟩
        · have HR:=Ac (show V=Q+1 by rw [HRX.out,Int.sign_eq_one_of_pos (by have:=HN0.out;omega)])
          rw [if_neg HN0.out,if_neg hn0] at hSG
          clear hn0
          go_wp2_with fail
          refine hSG.mono ?_
          rintro e w11 ⟨rfl,hg11⟩
          have HG11:=Ac (Ae HGXX.out hg11)
          have HW11:=Ac (Ae HWXX.out hg11)
          obtain ⟨y0,y1,_⟩:=(HBQ.out.more HW11.out).two
          clear hg11 x0 x1 x2 x3 hSG
          go_wp2_with fail
          have HKK:=Ac (fun W (h:w11.grownBy W none)=>(⟨Aj h y0 (by simp),Aj h y1 (by simp)⟩:W.cell? ⟨t4,0,none⟩=some (.bool s4)∧W.cell? ⟨t4,1,none⟩=some (.slice A4 n4 c4)))
          have ne1:t4≠s+1:=by have:=HT4.out;omega
          have ne2:s+1≠t4:=by have:=HT4.out;omega
          go_region_held3 (fun W=>W.cell? ⟨t4,0,none⟩=some (.bool s4)∧W.cell? ⟨t4,1,none⟩=some (.slice A4 n4 c4)) (first | go_keep | exact HKK.out _ (by (focus ((repeat (first | assumption | exact Al _ _ | exact Ai _ _ | exact Af _ _ _ | refine Ae ?_ (Af _ _ _) | refine Ae ?_ (Ai _ _) | refine Ae ?_ (by assumption)));done))))
           (first
           | (go_at_call 192;refine (F6 _ 1 (by omega)).mono ?_;rintro e w10 ⟨v10,rfl,hv10,hg10⟩)
           | (go_at_call 159;refine (Rl _ _ _ Q 1 (HNQ.out.more (Ae HW11.out (by (focus ((repeat (first | assumption | exact Al _ _ | exact Ai _ _ | exact Af _ _ _ | refine Ae ?_ (Af _ _ _) | refine Ae ?_ (Ai _ _) | refine Ae ?_ (by assumption)));done))))) (NZ.more (z:=1) hv10 (by (focus ((repeat (first | assumption | exact Al _ _ | exact Ai _ _ | exact Af _ _ _ | refine Ae ?_ (Af _ _ _) | refine Ae ?_ (Ai _ _) | refine Ae ?_ (by assumption)));done)))) HL7.out.1 HL1.out).mono ?_;rintro e w4 ⟨v4,rfl,hv4,hg4⟩;rw [←HR.out] at hv4;obtain ⟨A5,c5,rfl,hkk⟩:=hv4.res;have HB4:=Ac (HZ.out.more (Ae HG11.out (show w11.grownBy w4 none by (focus ((repeat (first | assumption | exact Al _ _ | exact Ai _ _ | exact Af _ _ _ | refine Ae ?_ (Af _ _ _) | refine Ae ?_ (Ai _ _) | refine Ae ?_ (by assumption)));done)))));obtain ⟨z0,z1,f0,f1⟩:=HB4.out.two)
           | (fail))
          all_goals
            generalize decide (V<0)=sr at *
            generalize (d16 V).length=nr at *
            go_wp2_with fail
            try simp only [Exit.inBlock,Exit.then]
            obtain ⟨w5,hw5⟩:∃ W,W=((w4.setCell ⟨s+1,0,none⟩ (.bool sr)).setCell ⟨s+1,1,none⟩ (.slice A5 nr c5)):=⟨_,rfl⟩
            rw [←hw5]
            have hB5:Blk w5 (s+1) #[.bool sr,.slice A5 nr c5]:=by rw [hw5];exact (HB4.out.set 0 _).set 1 _
            have hG5:w4.grownBy w5 (some (s+1)):=by rw [hw5];exact Ae (Au _ _ _ _) (Au _ _ _ _)
            clear z0 z1 f0 f1 hw5
            obtain ⟨z0,z1,_⟩:=hB5.two
            refine bodyPost_ret (v:=.agg #[.bool sr,.slice A5 nr c5]) (by simp [results,Tryz.results241,go_sem,z0,z1]) rfl ⟨_,rfl,hkk _ _ _ HB4.out (by simp) hG5,Aw (Ae HGW.out (Ae HG11.out (show w11.grownBy w4 none by (focus ((repeat (first | assumption | exact Al _ _ | exact Ai _ _ | exact Af _ _ _ | refine Ae ?_ (Af _ _ _) | refine Ae ?_ (Ai _ _) | refine Ae ?_ (by assumption)));done))))) hG5 (by have:=HS.out;omega)⟩
    · have HR:=Ac (HND.out.trans (if_neg (by omega)))
      clear hc
      obtain ⟨y0,y1,_⟩:=(HBQ.out.more HW9.out).two
      have HB4:=Ac (HZ.out.more HG9.out)
      obtain ⟨z0,z1,f0,f1⟩:=HB4.out.two
      obtain ⟨hkk⟩:Nonempty (∀ w' cs b,Blk w9 b cs→(∀ u∈cs.toList,∀ n,u≠.int .i64 n)→w9.grownBy w' (some b)→NZ w' (.agg #[.bool s4,.slice A4 n4 c4]) Q):=⟨fun w' cs b h hn hg=>(HKQ.out w9 HW9.out w' cs b h hn hg)⟩
      have HKZ:=Ac hkk
      clear hkk
      go_wp2_with fail
      try simp only [Exit.inBlock,Exit.then]
      obtain ⟨w5,hw5⟩:∃ W,W=((w9.setCell ⟨s+1,0,none⟩ (.bool s4)).setCell ⟨s+1,1,none⟩ (.slice A4 n4 c4)):=⟨_,rfl⟩
      rw [←hw5]
      have hB5:Blk w5 (s+1) #[.bool s4,.slice A4 n4 c4]:=by rw [hw5];exact (HB4.out.set 0 _).set 1 _
      have hG5:w9.grownBy w5 (some (s+1)):=by rw [hw5];exact Ae (Au _ _ _ _) (Au _ _ _ _)
      clear z0 z1 f0 f1 hw5
      obtain ⟨z0,z1,_⟩:=hB5.two
      refine bodyPost_ret (v:=.agg #[.bool s4,.slice A4 n4 c4]) (by simp [results,Tryz.results241,go_sem,z0,z1]) rfl ⟨_,rfl,by rw [HR.out];exact HKZ.out _ _ _ HB4.out (by simp) hG5,Aw (Ae HGW.out HG9.out) hG5 (by have:=HS.out;omega)⟩
end
end Go.Proofs.YtckbiimikeiejaaGreatDoor
