/- SysD SysE SysF RefA RefC. -/
import Derived.Test.YtmfmfpmkgmkgiaaGreatDoorMam
import Derived.Test.YtmfmfpmkgmkgiaaGreatDoorMah
import Derived.Test.YtmfmfpmkgmkgiaaGreatDoorMad
import Derived.Test.YtmfmfpmkgmkgiaaGreatDoorMak
import Derived.Test.YtmfmfpmkgmkgiaaGreatDoorMaa
set_option linter.unusedVariables false
set_option linter.unusedSimpArgs false
set_option maxHeartbeats 40000000
namespace Go.Proofs.YtmfmfpmkgmkgiaaGreatDoor
section
open Go.RowKit
open Rat
theorem RatB.cells4 {w:World} {b:Nat} {q:Rat} (h:RatB w b q):∃ cs T,cs.size=4∧w.heap[b]? = some (.cells cs T (0,0)):=by
 obtain ⟨v1,v2,d,T,_,hb,_⟩:=h
 exact ⟨_,T,rfl,hb⟩
theorem Mr (w:World) (bq bm:Nat) (q:Rat) (m:Int) (hq:RatB w bq q) (hm:IntB w bm m) (lq:LimQ q 200000000) (lm:lim m≤200000000) :
  Calls Tryz.prog 100 #[.pointer (some ⟨bq,0,none⟩),.pointer (some ⟨bm,0,none⟩)] w fun e w'=>∃ b,e=.returned (.pointer (some ⟨b,0,none⟩))∧IntB w' b ((q.num*m).tdiv q.den)∧w.heap.size≤b∧w.grownBy w' none:=by
 have ga:=Af w (zint 141) none
 have hz:=IntB.new w 141
 have HZ:=Ac hz
 have HQ:=Ac (hq.more ga)
 have HM:=Ac (hm.more ga)
 have HL1:=Ac (Nat.le_trans lq.1 (show 200000000≤1099511627776 by omega))
 have HL2:=Ac (Nat.le_trans lq.2 (show 200000000≤1099511627776 by omega))
 have HLM:=Ac (Nat.le_trans lm (show 200000000≤1099511627776 by omega))
 have HLP:=Ac (Nat.le_trans (C9 q.num m) (show lim q.num+lim m≤1099511627776 by have:=lq.1;omega))
 have HDN:=Ac (Gp q)
 clear hz hq hm lq lm
 go_enter Tryz.func100,Tryz.ntmps100
 go_wp2_with fail
 generalize w.alloc (zint 141)=wa at *
 generalize hs:w.heap.size=s at *
 refine (Jg wa bq q HQ.out HL1.out).mono ?_
 rintro e w1 ⟨b1,rfl,hn,hb1,hg1⟩
 go_wp2_with fail
 refine (Ct w1 s b1 0 bm 0 0 q.num m (HZ.out.more hg1) hn.at (HM.out.more hg1).at HL1.out HLM.out).mono ?_
 rintro e w2 ⟨rfl,hp,hg2⟩
 have hg12:wa.grownBy w2 (some s):=Ae (C0 hg1) hg2
 have hltq:=HQ.out.lt
 have hqs:bq≠s:=by
  intro e
  have h1:=HQ.out.cells4
  obtain ⟨cs,T,h4,hb⟩:=h1
  obtain ⟨v,T',hb',_⟩:=HZ.out
  rw [e,hb'] at hb
  injection hb with hb
  injection hb with e1 _ _
  subst e1
  simp at h4
 have HQ2:=Ac ((HQ.out.more hg1).other hg2 (HZ.out.more hg1).plain hqs)
 have HP:=Ac hp
 have HG2:=Ac (Aw (Ae ga hg1) hg2 (by omega))
 clear hp hn hg12 hqs hltq
 go_wp2_with fail
 refine (C2 w2 bq q HQ2.out HL2.out).mono ?_
 rintro e w3 ⟨b3,rfl,hd,hb3,hg3⟩
 go_wp2_with fail
 refine (Gf w3 s s 0 b3 0 (q.num*m) (q.num*m) q.den (HP.out.more hg3) (HP.out.more hg3).at hd.at HLP.out HDN.out).mono ?_
 rintro e w4 ⟨rfl,hr,hg4⟩
 go_wp2_with fail
 go_ret
 exact ⟨s,rfl,hr,by omega,Aw (Ae HG2.out hg3) hg4 (by omega)⟩
/-! ### numbers on the grid -/
def onG (v:Int):Bool:=decide (v≤1000000000000000000)&&decide (-1000000000000000000≤v)
theorem P4 (w:World) (x:Int):Calls Tryz.prog 112 #[.int .i64 x] w fun e w'=>e=.returned (.bool (!onG x))∧w=w':=by
 have HU:Hid ((!onG x) = !(decide (x≤1000000000000000000)&&decide (-1000000000000000000≤x))):=Ac rfl
 by_cases h1:1000000000000000000<x
 ·go_enter Tryz.func112,Tryz.ntmps112
  go_wp2_with fail
  go_ret
  exact ⟨Ao (by rw [HU.out];simp;omega),rfl⟩
 ·go_enter Tryz.func112,Tryz.ntmps112
  go_wp2_with fail
  go_ret
  exact ⟨Ao (by rw [HU.out,Bool.eq_iff_iff];simp;omega),rfl⟩
def FIG (r:Int) (l:List Int):Prop:=-1≤r∧(r<0↔l.all onG=true)
set_option maxRecDepth 100000 in
theorem Lm (w:World) (v:Value) (l:List Int) (hr:IntRow w v l) :
  Calls Tryz.prog 177 #[v,.func (.func 112) #[] #[]] w fun e w'=>∃ r:Int,e=.returned (.int .i64 r)∧Hid (FIG r l)∧w=w':=by
 have HR:=Ac hr
 obtain ⟨A,c,rfl,h1,h2⟩:=hr.ctor
 clear hr
 go_enter Tryz.func177,Tryz.ntmps177
 go_wp2_with fail
 go_loopw [8] (fun i wr=>∃ k:Nat,k≤l.length∧i=.int .i64 k∧Hid (∀ t,t<k→onG (l.getD t 0)=true)∧wr=w) (fun i _=>l.length-(intOf i).toNat)
 case atStart=>exact ⟨0,Nat.zero_le _,rfl,Ac (fun t ht=>by omega),rfl⟩
 case round =>
  obtain ⟨k,hk,rfl,hS,rfl⟩:=hrel
  by_cases hlt:k<l.length
  ·obtain ⟨b,o,rfl,hI,hc⟩:=HR.out.at hlt
   generalize hx:l.getD k 0=x at *
   have HX:=Ac hx
   clear hx
   go_wp2_with fail
   refine (P4 wr x).mono ?_
   rintro e w1 ⟨rfl,rfl⟩
   cases hd:onG x with
   | false =>
    have HD:=Ac hd
    clear hd
    go_wp2_with fail
    go_ret
    refine ⟨_,rfl,Ac ⟨by omega,⟨fun h=>by omega,fun h=>?_⟩⟩,rfl⟩
    rw [List.all_eq_true] at h
    have:=h x (by rw [←HX.out];simp [List.getD,List.getElem?_eq_getElem hlt])
    rw [HD.out] at this
    cases this
   | true =>
    have HD:=Ac hd
    clear hd
    go_wp2_with fail
    exact ⟨⟨k+1,by omega,by go_num,Ac (fun t ht=>by
     by_cases htk:t=k
     ·subst htk;rw [HX.out];exact HD.out
     ·exact hS.out t (by omega)),trivial⟩,by simp [intOf];omega⟩
  ·obtain rfl:k=l.length:=by omega
   go_wp2_with fail
   go_ret
   refine ⟨_,rfl,Ac ⟨by omega,⟨fun _=>?_,fun _=>by omega⟩⟩,rfl⟩
   rw [List.all_eq_true]
   intro x hx
   obtain ⟨j,hj,rfl⟩:=List.mem_iff_getElem.1 hx
   have:=hS.out j hj
   rwa [show l.getD j 0=l[j] by simp [List.getD,List.getElem?_eq_getElem hj]] at this
theorem Jr (w:World) (v:Value) (l:List Int) (hr:IntRow w v l) :
  Calls Tryz.prog 111 #[v,.func (.func 112) #[] #[]] w fun e w'=>e=.returned (.bool (!l.all onG))∧w=w':=by
 have h:=Lm w v l hr
 obtain ⟨A,c,rfl,h1,h2⟩:=hr.ctor
 have HH:=Ac h
 clear hr h
 go_enter Tryz.func111,Tryz.ntmps111
 go_wp2_with fail
 refine HH.out.mono ?_
 rintro e w1 ⟨r,rfl,hf,rfl⟩
 have h1:=hf.out.1
 by_cases hneg:r<0
 ·have hz:¬ (0:Int)≤r:=by omega
  have HA:=Ac (hf.out.2.1 hneg)
  go_wp2_with fail
  go_ret
  exact ⟨Ao (by rw [HA.out];simp;omega),rfl⟩
 ·have hz:(0:Int)≤r:=by omega
  have HA:Hid (l.all onG=false):=Ac (by
   cases hh:l.all onG
   ·rfl
   ·exact absurd (hf.out.2.2 hh) hneg)
  go_wp2_with fail
  go_ret
  exact ⟨Ao (by rw [HA.out];simp),rfl⟩
theorem La (w:World) (v:Value) (l:List Int) (hr:IntRow w v l) :
  Calls Tryz.prog 57 #[v] w fun e w'=>e=.returned (.bool (l.all onG))∧w=w':=by
 have h:=Jr w v l hr
 obtain ⟨A,c,rfl,h1,h2⟩:=hr.ctor
 have HH:=Ac h
 clear hr h
 go_enter Tryz.func57,Tryz.ntmps57
 go_wp2_with fail
 refine HH.out.mono ?_
 rintro e w1 ⟨rfl,rfl⟩
 go_wp2_with fail
 go_ret
 exact ⟨Ao (by first | rfl | simp),rfl⟩
end
section
open Go.RowKit
open Rat
theorem Blk.seven {w:World} {b:Nat} {x0 x1 x2 x3 x4 x5 x6:Value} (h:Blk w b #[x0,x1,x2,x3,x4,x5,x6]) :
  w.cell? ⟨b,0,none⟩=some x0∧w.cell? ⟨b,1,none⟩=some x1∧w.cell? ⟨b,2,none⟩=some x2∧w.cell? ⟨b,3,none⟩=some x3∧w.cell? ⟨b,4,none⟩=some x4∧w.cell? ⟨b,5,none⟩=some x5∧w.cell? ⟨b,6,none⟩=some x6 :=
 ⟨h.cell 0,h.cell 1,h.cell 2,h.cell 3,h.cell 4,h.cell 5,h.cell 6⟩
theorem Kl {l:List RowP} {k:Nat} (hk:k<l.length) (h:¬ Pk l.length (l.getD k row0)):sysE l=130:=by
 unfold sysE;rw [if_neg];exact fun hh=>h (hh.2 k hk)
set_option maxRecDepth 100000 in
theorem Ix (w:World) (v:Value) (l:List RowP) (hl:SysRow w v l) :
  Calls Tryz.prog 24 #[.agg #[v]] w fun e w'=>e=.returned (.int .i64 (sysE l))∧w.grownBy w' none:=by
 obtain ⟨A,c,rfl,h1,h2⟩:=hl.ctor
 have gw:=Af w (.cells #[.slice A l.length c] 38) none
 have hB:=Blk.new w #[.slice A l.length c] 38
 have c0:(w.alloc (.cells #[.slice A l.length c] 38)).cell? ⟨w.heap.size,0,none⟩=some (.slice A l.length c):=hB.cell 0
 obtain ⟨R,hR⟩:∃ R,sysE l=R:=⟨_,rfl⟩
 rw [hR]
 have HR:=Ac hR
 have HL:=Ac (hl.more gw)
 clear hR hl hB
 by_cases h48:48<l.length
 ·have HF:Hid (R=130):=Ac (by rw [←HR.out];unfold sysE;rw [if_neg];exact fun h=>by have:=h.1;omega)
  generalize l.length=n at *
  go_enter Tryz.func24,Tryz.ntmps24
  go_wp2_with fail
  go_ret
  exact ⟨B9 HF.out.symm,gw⟩
 go_enter Tryz.func24,Tryz.ntmps24
 go_wp2_with fail
 generalize w.alloc (.cells #[.slice A l.length c] 38)=wa at *
 generalize w.heap.size=s at *
 go_loopw [14] (fun i wr=>∃ k:Nat,k≤l.length∧i=.int .i64 k∧wa.grownBy wr none∧Hid (∀ t,t<k→Pk l.length (l.getD t row0))) (fun i _=>(l.length-intOf i).toNat)
 case atStart=>exact ⟨0,by omega,rfl,Al _ _,Ac (fun t ht=>by omega)⟩
 case round =>
  obtain ⟨k,hk,rfl,hg,hb⟩:=hrel
  by_cases hlt:k<l.length
  ·obtain ⟨b,o,Am,nm,cm,Aa,ca,Ah,ch,As,cs,Ak,nk,ck,rfl,q0,q1,q2,q3,q4,q5,q6,rm,ra,rh,rs,rk⟩:=(HL.out.more hg).at hlt
   generalize hx:l.getD k row0=r at *
   have HX:=Ac hx
   clear hx
   have ga:=Af wr (.cells #[.bool r.mneg,.slice Am nm cm,.slice Aa r.a.length ca,.slice Ah r.h.length ch,.slice As r.s.length cs,.bool r.kneg,.slice Ak nk ck] 52) none
   have hBX:=Blk.new wr #[.bool r.mneg,.slice Am nm cm,.slice Aa r.a.length ca,.slice Ah r.h.length ch,.slice As r.s.length cs,.bool r.kneg,.slice Ak nk ck] 52
   have HBX:=Ac hBX
   obtain ⟨p0,p1,p2,p3,p4,p5,p6⟩:=hBX.seven
   have hnm:=rm.form
   obtain ⟨A',c',hnm,_,_⟩:=hnm
   injection hnm with e1 hnm e3
   clear e1 e3
   have HNM:=Ac hnm
   have HM:=Ac (Db _ r.mneg _ r.mlimbs (rm.more ga))
   have HRK:=Ac (rk.more ga)
   have HRA:=Ac (ra.more ga)
   have HRH:=Ac (rh.more ga)
   have HRS:=Ac (rs.more ga)
   have HG:=Ac (Ae gw (Ae hg ga))
   have HG1:=Ac (Ae hg ga)
   clear rm rk ra rh rs hnm hBX
   go_wp2_with fail
   refine HM.out.mono ?_
   rintro e w1 ⟨rfl,g1⟩
   clear p0 p1 p2 p3 p4 p5 p6 q0 q1 q2 q3 q4 q5 q6
   obtain ⟨p0,p1,p2,p3,p4,p5,p6⟩:=(HBX.out.more g1).seven
   by_cases hM:IntOK r.mneg r.mlimbs
   case neg =>
    rw [if_neg hM]
    have HMM:=Ac hM
    clear hM
    go_wp2_with fail
    go_ret
    exact ⟨B9 (by rw [←HR.out];exact (Kl hlt (by rw [HX.out];exact fun h=>HMM.out h.1)).symm),Ae HG.out g1⟩
   rw [if_pos hM]
   cases hmn:r.mneg with
   | true =>
    have HMM:=Ac hmn
    rw [hmn] at p0
    clear hM hmn
    go_wp2_with fail
    go_ret
    exact ⟨B9 (by rw [←HR.out];exact (Kl hlt (by rw [HX.out];exact fun h=>by have:=h.2.1;rw [HMM.out] at this;cases this)).symm),Ae HG.out g1⟩
   | false =>
    have HM1:=Ac hM
    have HM2:=Ac hmn
    rw [hmn] at p0
    clear hM hmn
    by_cases hz:nm=0
    ·have tz:((nm:Int)==0)=true:=by rw [beq_iff_eq];omega
     have HZ:Hid (r.mlimbs=[]):=Ac (List.eq_nil_of_length_eq_zero (by rw [←HNM.out];exact hz))
     clear hz
     go_wp2_with fail
     go_ret
     exact ⟨B9 (by rw [←HR.out];exact (Kl hlt (by rw [HX.out];exact fun h=>h.2.2.1 HZ.out)).symm),Ae HG.out g1⟩
    have tz:((nm:Int)==0)=false:=by rw [beq_eq_false_iff_ne];omega
    have HZ:Hid (r.mlimbs≠[]):=Ac (fun h=>hz (by rw [HNM.out,h];rfl))
    clear hz
    have HKC:=Ac (Db w1 r.kneg _ r.klimbs (HRK.out.more g1))
    go_wp2_with fail
    refine HKC.out.mono ?_
    rintro e w2 ⟨rfl,g2⟩
    clear p0 p1 p2 p3 p4 p5 p6
    obtain ⟨p0,p1,p2,p3,p4,p5,p6⟩:=(HBX.out.more (Ae g1 g2)).seven
    by_cases hK:IntOK r.kneg r.klimbs
    case neg =>
     rw [if_neg hK]
     have HMM:=Ac hK
     clear hK
     go_wp2_with fail
     go_ret
     exact ⟨B9 (by rw [←HR.out];exact (Kl hlt (by rw [HX.out];exact fun h=>HMM.out h.2.2.2.1)).symm),Ae HG.out (Ae g1 g2)⟩
    rw [if_pos hK]
    have HK:=Ac hK
    clear hK
    have g12:=Ae g1 g2
    have HCA:=Ac (Fn w2 _ r.a l.length (HRA.out.more g12))
    clear g1 g2
    go_wp2_with fail
    refine HCA.out.mono ?_
    rintro e w3 ⟨rfl,g3⟩
    clear p0 p1 p2 p3 p4 p5 p6
    have g13:=Ae g12 g3
    obtain ⟨p0,p1,p2,p3,p4,p5,p6⟩:=(HBX.out.more g13).seven
    cases hca:decide (Dh l.length r.a) with
    | false =>
     have HMM:=Ac (of_decide_eq_false hca)
     clear hca
     go_wp2_with fail
     go_ret
     exact ⟨B9 (by rw [←HR.out];exact (Kl hlt (by rw [HX.out];exact fun h=>HMM.out h.2.2.2.2.1)).symm),Ae HG.out g13⟩
    | true =>
     have HA:=Ac (of_decide_eq_true hca)
     have HCH:=Ac (Fn w3 _ r.h l.length (HRH.out.more g13))
     clear hca g12 g3
     go_wp2_with fail
     refine HCH.out.mono ?_
     rintro e w4 ⟨rfl,g4⟩
     clear p0 p1 p2 p3 p4 p5 p6
     have g14:=Ae g13 g4
     obtain ⟨p0,p1,p2,p3,p4,p5,p6⟩:=(HBX.out.more g14).seven
     cases hch:decide (Dh l.length r.h) with
     | false =>
      have HMM:=Ac (of_decide_eq_false hch)
      clear hch
      go_wp2_with fail
      go_ret
      exact ⟨B9 (by rw [←HR.out];exact (Kl hlt (by rw [HX.out];exact fun h=>HMM.out h.2.2.2.2.2.1)).symm),Ae HG.out g14⟩
     | true =>
      have HH:=Ac (of_decide_eq_true hch)
      have HCS:=Ac (Fn w4 _ r.s 64 (HRS.out.more g14))
      clear hch g13 g4
      go_wp2_with fail
      refine HCS.out.mono ?_
      rintro e w5 ⟨rfl,g5⟩
      have g15:=Ae g14 g5
      cases hcs:decide (Dh 64 r.s) with
      | false =>
       have HMM:=Ac (of_decide_eq_false hcs)
       clear hcs
       go_wp2_with fail
       go_ret
       exact ⟨B9 (by rw [←HR.out];exact (Kl hlt (by rw [HX.out];exact fun h=>HMM.out h.2.2.2.2.2.2)).symm),Ae HG.out g15⟩
      | true =>
       have HS:=Ac (of_decide_eq_true hcs)
       clear hcs
       go_wp2_with fail
       exact ⟨⟨k+1,by omega,by go_num,Ae HG1.out g15,Ac (fun t ht=>by
        by_cases htk:t=k
        ·subst htk;rw [HX.out];exact ⟨HM1.out,HM2.out,HZ.out,HK.out,HA.out,HH.out,HS.out⟩
        ·exact hb.out t (by omega))⟩,by simp [intOf];omega⟩
  ·obtain rfl:k=l.length:=by omega
   have HF:Hid (R=0):=Ac (by rw [←HR.out];unfold sysE;rw [if_pos];exact ⟨by omega,hb.out⟩)
   go_wp2_with fail
   go_ret
   exact ⟨B9 HF.out.symm,Ae gw hg⟩
end
section
open Go.RowKit
open Rat
def accZ (k:Int) (l:List CellP) (x:List Int):Nat→Int
 | 0=>k
 | t+1=>accZ k l x t+(l.getD t Br).z*x.getD (l.getD t Br).col.toNat 0
def A1o (r:RowP) (prev src:List Int):Int:=accZ (accZ r.k r.h prev r.h.length) r.s src r.s.length
theorem Kv {n:Int} {l:List CellP} (h:Dh n l):∀ t:Nat,t<l.length→(t:Int)≤(l.getD t Br).col
 | 0,ht=>by have:=(h 0 ht).1;omega
 | t+1,ht=>by
  have h1:=Kv h t (by omega)
  have h2:=(h (t+1) ht).2.2.1 (by omega)
  rw [Nat.add_sub_cancel] at h2
  omega
theorem Pc {n:Int} {l:List CellP} (h:Dh n l) (hn:0≤n):(l.length:Int)≤n:=by
 by_cases h0:l.length=0
 ·omega
 ·have h1:=Kv h (l.length-1) (by omega)
  have h2:=(h (l.length-1) (by omega)).2.1
  omega
theorem Se {n:Int} {l:List CellP} {t:Nat} (h:Dh n l) (ht:t<l.length) (hb:∀ x∈(l.getD t Br).limbs,x<4294967296):lim (l.getD t Br).z≤72:=by
 have h4:=(h t ht).2.2.2.1.1
 exact Nat.le_trans (Ij hb) h4
theorem Nf {k:Int} {l:List CellP} {x:List Int} {b:Nat} (hk:lim k≤74+b) (hc:∀ t,t<l.length→lim (l.getD t Br).z≤72) (hx:∀ i,I64 (x.getD i 0)):∀ t,t≤l.length→lim (accZ k l x t)≤74+b+t
 | 0,_=>hk
 | t+1,ht=>by
  have h1:=Nf hk hc hx t (by omega)
  have h2:lim ((l.getD t Br).z*x.getD (l.getD t Br).col.toNat 0)≤74:=by
   have a:=C9 (l.getD t Br).z (x.getD (l.getD t Br).col.toNat 0)
   have b:=hc t (by omega)
   have c:=Ii (hx (l.getD t Br).col.toNat).1 (hx (l.getD t Br).col.toNat).2
   omega
  have:=Mz (x:=accZ k l x t) (y:=(l.getD t Br).z*x.getD (l.getD t Br).col.toNat 0) (k:=74+b+t) h1 (by omega)
  exact this
def IntsR (w:World) (xs:List Value):List Int→Prop
 | []=>xs=[]
 | z::L=>∃ A n c rest,xs=[.bool (decide (z<0)),.slice A n c]++rest∧Nums w (.slice A n c) (digs z)∧IntsR w rest L
theorem IntsR.snoc {w:World} {A:Option Addr} {n c:Nat} {z:Int} (hs:Nums w (.slice A n c) (digs z)):∀ {xs:List Value} {L:List Int},IntsR w xs L→IntsR w (xs++[.bool (decide (z<0)),.slice A n c]) (L++[z])
 | xs,[],h=>by
  have:xs=[]:=h
  subst this
  exact ⟨A,n,c,[],by simp,hs,rfl⟩
 | xs,t::L,⟨A1,n1,c1,rest,e,h1,h2⟩=>⟨A1,n1,c1,rest++[.bool (decide (z<0)),.slice A n c],by rw [e,List.append_assoc],h1,h2.snoc hs⟩
theorem IntsR.imp {w w':World} (hi:∀ v ds,Nums w v ds→Nums w' v ds):∀ {xs:List Value} {L:List Int},IntsR w xs L→IntsR w' xs L
 | _,[],h=>h
 | _,_::_,⟨A1,n1,c1,rest,e,h1,h2⟩=>⟨A1,n1,c1,rest,e,hi _ _ h1,h2.imp hi⟩
theorem IntsR.length {w:World}:∀ {xs:List Value} {L:List Int},IntsR w xs L→xs.length=L.length*2
 | _,[],h=>by have:_=[]:=h;subst this;rfl
 | _,_::L,⟨_,_,_,rest,e,_,h2⟩=>by rw [e,List.length_append,h2.length,List.length_cons];simp;omega
theorem IntsR.at {w:World}:∀ {xs:List Value} {L:List Int},IntsR w xs L→∀ i (hi:i<L.length),∃ A n c,xs[i*2]? = some (.bool (decide (L[i]<0)))∧xs[i*2+1]? = some (.slice A n c)∧Nums w (.slice A n c) (digs L[i])
 | _,[],_,i,hi=>by simp at hi
 | _,z::L,⟨A,n,c,rest,e,h1,h2⟩,0,hi=>⟨A,n,c,by rw [e];rfl,by rw [e];rfl,h1⟩
 | _,z::L,⟨A,n,c,rest,e,h1,h2⟩,i+1,hi=>by
  obtain ⟨A',n',c',h3,h4,h5⟩:=h2.at i (by simpa using hi)
  refine ⟨A',n',c',?_,?_,h5⟩
  ·rw [e,show (i+1)*2=i*2+1+1 by omega];exact h3
  ·rw [e,show (i+1)*2+1=i*2+1+1+1 by omega];exact h4
def ZRow (w:World) (v:Value) (L:List Int):Prop :=
 ∃ A c,v=.slice A L.length c∧(0<L.length→∃ b,A=some ⟨b,0,none⟩∧∀ i (hi:i<L.length),∃ A' n' c',w.cell? ⟨b,i*2,none⟩=some (.bool (decide (L[i]<0)))∧w.cell? ⟨b,i*2+1,none⟩=some (.slice A' n' c')∧Nums w (.slice A' n' c') (digs L[i]))
def N2 (l:List RowP) (m:Nat):Prop:=∀ i,i<l.length→(l.getD i row0).s.length=0∨((l.getD i row0).s.getD ((l.getD i row0).s.length-1) Br).col<(m:Int)
instance (l:List RowP) (m:Nat):Decidable (N2 l m):=by unfold N2;infer_instance
def Ha (l:List RowP) (prev src:List Int):List Int:=l.map fun r=>A1o r prev src
def rhsE (l:List RowP) (prev src:List Int):Int :=
 if sysE l≠0 then sysE l
 else if prev.length≠l.length then 5
 else if ¬ N2 l src.length then 5
 else if !(prev.all onG&&src.all onG) then 4
 else if ∀ i,i<l.length→lim ((Ha l prev src).getD i 0)≤72 then 0 else 13
def rhsV (l:List RowP) (prev src:List Int):List Int:=if rhsE l prev src=0 then Ha l prev src else []
end
section
open Go.RowKit
open Rat
end
section
open Go.RowKit
open Rat
def D16 (w:World) (v:Value) (ds:List Nat):Prop :=
 ((v=.slice none 0 0∧ds=[])∨∃ b o c,v=.slice (some ⟨b,o,none⟩) ds.length c∧ds.length≤c∧c≤9223372036854775807∧∀ i,i<ds.length→w.cell? ⟨b,o+i,none⟩=some (.int .i64 ((ds[i]?.getD 0:Nat):Int)))∧∀ x∈ds,x<65536
theorem D16.nil (w:World):D16 w (.slice none 0 0) []:=⟨.inl ⟨rfl,rfl⟩,by simp⟩
theorem D16.more {w w':World} {v:Value} {ds:List Nat} (h:D16 w v ds) (hg:w.grownBy w' none):D16 w' v ds:=by
 refine ⟨?_,h.2⟩
 rcases h.1 with h1 | ⟨b,o,c,rfl,h1,h2,h3⟩
 ·exact .inl h1
 ·exact .inr ⟨b,o,c,rfl,h1,h2,fun i hi=>Aj hg (h3 i hi) (by simp)⟩
theorem D16.apart {w w':World} {v:Value} {ds:List Nat} {r:Nat} (h:D16 w v ds) (hg:w.grownBy w' (some r)) (hne:v.ownBlock≠some r):D16 w' v ds:=by
 refine ⟨?_,h.2⟩
 rcases h.1 with h1 | ⟨b,o,c,rfl,h1,h2,h3⟩
 ·exact .inl h1
 ·have hb:b≠r:=fun e=>hne (by rw [e];rfl)
  exact .inr ⟨b,o,c,rfl,h1,h2,fun i hi=>Aj hg (h3 i hi) (by simpa using hb)⟩
theorem D16.ctor {w:World} {v:Value} {ds:List Nat} (h:D16 w v ds):∃ A c,v=.slice A ds.length c∧ds.length≤9223372036854775807:=by
 rcases h.1 with ⟨rfl,rfl⟩ | ⟨b,o,c,rfl,h1,h2,_⟩
 ·exact ⟨_,_,rfl,by simp⟩
 ·exact ⟨_,_,rfl,by omega⟩
theorem D16.take {w:World} {b o c:Nat} {ds:List Nat} (h:D16 w (.slice (some ⟨b,o,none⟩) ds.length c) ds) {k:Nat} (hk:k≤ds.length):D16 w (.slice (some ⟨b,o,none⟩) k c) (ds.take k):=by
 rcases h.1 with ⟨e,_⟩ | ⟨b',o',c',e,h1,h2,h3⟩
 ·injection e with e;simp at e
 ·injection e with e e1 e2
  injection e with e;injection e with e3 e4
  subst e3 e4 e2
  have hl:(ds.take k).length=k:=by simp [hk]
  refine ⟨.inr ⟨b,o,c,by rw [hl],by omega,h2,fun i hi=>?_⟩,fun x hx=>h.2 x (List.mem_of_mem_take hx)⟩
  rw [hl] at hi
  rw [h3 i (by omega),List.getElem?_take,if_pos hi]
theorem Fu (w:World) (v:Value) (xs:List Nat) (hx:D16 w v xs) :
  Calls Tryz.prog 122 #[v] w fun e w'=>∃ v',e=.returned v'∧D16 w v' (dig 65536 (val 65536 xs))∧v'.ownBlock=v.ownBlock∧w=w':=by
 rw [←Tm 65536 (by omega) xs hx.2]
 have hx':=hx
 rcases hx.1 with ⟨rfl,rfl⟩ | ⟨b,o,c,rfl,h1,h2,hc⟩
 ·refine Calls.mono (R:=fun e w'=>e=.returned (.slice none 0 0)∧w'=w) ?_ (fun e w' ⟨he,hw⟩=>⟨_,he,D16.nil w,rfl,hw.symm⟩)
  go_enter Tryz.func122,Tryz.ntmps122
  go_wp2
  go_loop [3] (fun n=>n=.int .i64 0) (fun n=>0)
  case atStart=>rfl
  case round =>
   obtain rfl:=hrel
   go_wp2
   go_ret
   exact ⟨rfl,rfl⟩
 ·refine Calls.mono (R:=fun e w'=>e=.returned (.slice (some ⟨b,o,none⟩) (Cn xs xs.length) c)∧w'=w) ?_ (fun e w' ⟨he,hw⟩=>⟨_,he,hx'.take (Kn _ _),rfl,hw.symm⟩)
  clear hx hx'
  go_enter Tryz.func122,Tryz.ntmps122
  go_wp2
  go_loop [3] (fun n=>∃ k:Nat,k≤xs.length∧n=.int .i64 k∧Hid (Cn xs k=Cn xs xs.length)) (fun n=>(intOf n).toNat)
  case atStart=>exact ⟨_,Nat.le_refl _,rfl,rfl⟩
  case round =>
   obtain ⟨k,hk,rfl,ht⟩:=hrel
   have hpos:0<k→w.cell? ⟨b,o+(k-1),none⟩=some (.int .i64 ((xs[k-1]?.getD 0:Nat):Int)):=fun _=>hc (k-1) (by omega)
   clear hc
   go_wp2
   ·exact ⟨⟨k-1,by omega,by go_num,(Vx (by assumption) (by assumption)).trans ht⟩,by simp [intOf];omega⟩
   ·go_ret;exact ⟨Jq ((Pt (by assumption) (by assumption)).symm.trans ht),rfl⟩
   ·go_ret;exact ⟨Jq ((Ps (by assumption)).symm.trans ht),rfl⟩
def d16 (z:Int):List Nat:=dig 65536 z.natAbs
theorem L0 {z:Int}:d16 z=[]↔z=0:=by unfold d16;rw [Ig _ _ (by omega)];omega
def NZ (w:World) (nv:Value) (z:Int):Prop:=∃ v,nv=.agg #[.bool (decide (z<0)),v]∧D16 w v (d16 z)
theorem NZ.more {w w':World} {v:Value} {z:Int} (h:NZ w v z) (hg:w.grownBy w' none):NZ w' v z:=by
 obtain ⟨u,rfl,h⟩:=h;exact ⟨u,rfl,h.more hg⟩
theorem Mc (w:World) (nv:Value) (z:Int) (hx:NZ w nv z) :
  Calls Tryz.prog 69 #[nv] w fun e w'=>e=.returned (.int .i64 (if z=0 then 0 else if z<0 then -1 else 1))∧w.grownBy w' none:=by
 obtain ⟨v,rfl,hd⟩:=hx
 obtain ⟨A,c,rfl,hl⟩:=hd.ctor
 have gw:=Af w (.cells #[.bool (decide (z<0)),.slice A (d16 z).length c] 122) none
 have hB:=Blk.new w #[.bool (decide (z<0)),.slice A (d16 z).length c] 122
 obtain ⟨b0,b1,_⟩:=hB.two
 have h0:(d16 z).length=0↔z=0:=by rw [List.length_eq_zero_iff];exact L0
 clear hd hB
 generalize (d16 z).length=n at *
 by_cases hz:z=0
 ·rw [if_pos hz]
  obtain rfl:=h0.2 hz
  clear h0
  generalize decide (z<0)=neg at *
  clear hz
  go_enter Tryz.func69,Tryz.ntmps69
  go_wp2
  go_ret
  exact ⟨by first | rfl | go_num,gw⟩
 ·rw [if_neg hz]
  have t:((n:Int)==0)=false:=by rw [beq_eq_false_iff_ne];omega
  by_cases hn:z<0
  ·rw [if_pos hn]
   generalize hneg:decide (z<0)=neg at *
   obtain rfl:neg=true:=by rw [←hneg];exact decide_eq_true hn
   clear h0 hz hneg hn
   go_enter Tryz.func69,Tryz.ntmps69
   go_wp2
   go_ret
   exact ⟨by first | rfl | go_num,gw⟩
  ·rw [if_neg hn]
   generalize hneg:decide (z<0)=neg at *
   obtain rfl:neg=false:=by rw [←hneg];exact decide_eq_false hn
   clear h0 hz hneg hn
   go_enter Tryz.func69,Tryz.ntmps69
   go_wp2
   go_ret
   exact ⟨by first | rfl | go_num,gw⟩
end
end Go.Proofs.YtmfmfpmkgmkgiaaGreatDoor
