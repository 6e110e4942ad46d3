/- ModA ModB ModC SysA Quiet SysB. -/
import Derived.Test.YtckbiimikeiejaaGreatDoorMah
import Derived.Lib.AtoiErrMem
import Derived.Test.YtckbiimikeiejaaGreatDoorMag
import Derived.Test.YtckbiimikeiejaaGreatDoorMaa
import Derived.BigQuiet
import Derived.Deep.QuietTactic
set_option linter.unusedVariables false
set_option linter.unusedSimpArgs false
set_option maxHeartbeats 40000000
namespace Go.Proofs.YtckbiimikeiejaaGreatDoor
section
open Go.RowKit
open Rat
theorem Hn (q:Rat):sg (decide (q.num<0)) (val 4294967296 (digs q.num)) /. sg false (val 4294967296 (digs (q.den:Int)))=q:=by
 rw [By,By,Hp]
 simp [sg]
theorem RatV.forms {w:World} {v:Value} {q:Rat} (h:RatV w v q):∃ A1 n1 c1 A2 n2 c2,v=.agg #[.bool (decide (q.num<0)),.slice A1 n1 c1,.bool false,.slice A2 n2 c2]∧Nums w (.slice A1 n1 c1) (digs q.num)∧Nums w (.slice A2 n2 c2) (digs (q.den:Int)):=by
 obtain ⟨v1,v2,rfl,h1,h2⟩:=h
 obtain ⟨A1,n1,c1,rfl⟩:=h1.ctor
 obtain ⟨A2,n2,c2,rfl⟩:=h2.ctor
 exact ⟨_,_,_,_,_,_,rfl,h1,h2⟩
theorem RatV.more {w w':World} {v:Value} {q:Rat} (h:RatV w v q) (hg:w.grownBy w' none):RatV w' v q:=by
 obtain ⟨v1,v2,rfl,h1,h2⟩:=h
 exact ⟨v1,v2,rfl,h1.more hg,h2.more hg⟩
theorem Iq (q:Rat):val 4294967296 (digs (q.den:Int))≠0:=by
 rw [By];have:=q.den_nz;omega
set_option maxRecDepth 100000 in
theorem Rb (w:World) (m e:Int) (h:NumOK m e) :
  Calls Tryz.prog 163 #[.agg #[.int .i64 m,.int .i64 e]] w fun o w'=>∃ b,o=.returned (.pointer (some ⟨b,0,none⟩))∧RatB w' b (numQ m e)∧w.heap.size≤b∧w.grownBy w' none:=by
 have hlq:=Ba h
 have gw:=Af w (.cells #[.int .i64 m,.int .i64 e] 25) none
 have hB:=Blk.new w #[.int .i64 m,.int .i64 e] 25
 have hs1:(w.alloc (.cells #[.int .i64 m,.int .i64 e] 25)).heap.size=w.heap.size+1:=by simp
 obtain ⟨b0,b1,_⟩:=hB.two
 have HOK:=Ac h
 have hb:=h.bounds
 clear h hB
 go_enter Tryz.func163,Tryz.ntmps163
 go_wp2_with fail
 generalize w.alloc (.cells #[.int .i64 m,.int .i64 e] 25)=wa at *
 generalize hs:w.heap.size=s at *
 refine (Ib wa m e HOK.out).mono ?_
 rintro o w1 ⟨v,rfl,hv,hg1⟩
 obtain ⟨A1,n1,c1,A2,n2,c2,rfl,hn1,hn2⟩:=hv.forms
 have hC:=Blk.new w1 #[.bool (decide ((numQ m e).num<0)),.slice A1 n1 c1,.bool false,.slice A2 n2 c2] 94
 have g2:=Af w1 (.cells #[.bool (decide ((numQ m e).num<0)),.slice A1 n1 c1,.bool false,.slice A2 n2 c2] 94) none
 have s1:=hg1.size
 have s2:=g2.size
 have hD:Hid (sg (decide ((numQ m e).num<0)) (val 4294967296 (digs (numQ m e).num)) /. sg false (val 4294967296 (digs ((numQ m e).den:Int)))=numQ m e):=Ac (Hn _)
 obtain ⟨d0,d1,d2,d3,_⟩:=hC.four
 have l1:=hlq.1
 have l2:=hlq.2
 go_wp2_with fail
 generalize w1.alloc (.cells #[.bool (decide ((numQ m e).num<0)),.slice A1 n1 c1,.bool false,.slice A2 n2 c2] 94)=w2 at *
 refine (Et w2 _ false _ _ (digs (numQ m e).num) (digs ((numQ m e).den:Int)) (hn1.more g2) (hn2.more g2) (Nat.le_trans l1 (by omega)) (Nat.le_trans l2 (by omega)) (Iq _)).mono ?_
 rintro o w3 ⟨b3,rfl,hr3,hb3,hg3⟩
 rw [hD.out] at hr3
 go_wp2
 go_ret
 exact ⟨b3,rfl,hr3,by omega,Ae gw (Ae hg1 (Ae g2 hg3))⟩
end
section
open Go.RowKit
def De (b:Nat):Bool:=(decide (97≤b)&&decide (b≤122))||(decide (48≤b)&&decide (b≤57))||decide (b=95)
def D9 (l:List UInt8):Bool:=decide (1≤l.length)&&decide (l.length≤16)&&l.all fun b=>De b.toNat
theorem Yy (w:World) (e:TypeId) (s:ByteArray):w.grownBy (Lib.bytesWorld w e s) none:=Hk (Lib.bytesWorld_below w e s)
set_option maxRecDepth 100000 in
theorem Na (w:World) (s:ByteArray) :
  Calls Tryz.prog 252 #[.string s] w fun e w'=>e=.returned (.bool (D9 s.data.toList))∧w.grownBy w' none:=by
 have hlen:s.data.toList.length=s.size:=rfl
 by_cases hl:1≤s.size∧s.size≤16
 ·obtain ⟨l1,l2⟩:=hl
  have hr:D9 s.data.toList=s.data.toList.all fun b=>De b.toNat:=by
   unfold D9;rw [hlen,decide_eq_true l1,decide_eq_true l2];simp
  have hcv:=Lib.run_convert_string_bytes (P:=Tryz.prog) w 9 336 5 s (u:=.string) Tryz.underlying9 Tryz.underlying336 Tryz.underlying5
  have hcell:=fun j hj=>Lib.bytesWorld_cell w 5 s j hj
  have gw:=Yy w 5 s
  rw [hr]
  have HL:=Ac hlen
  clear hr hlen
  generalize Lib.bytesWorld w 5 s=wb at *
  generalize s.data.toList=l at *
  generalize hn:s.size=n at *
  go_enter Tryz.func252,Tryz.ntmps252
  go_wp2
  go_loopw [16] (fun i wr=>∃ k:Nat,k≤n∧i=.int .i64 k∧wb=wr∧Hid (∀ j,j<k→De (l.getD j 0).toNat=true)) (fun i _=>(n-intOf i).toNat)
  case atStart=>exact ⟨0,by omega,rfl,rfl,Ac (fun j hj=>by omega)⟩
  case round =>
   obtain ⟨k,hk,rfl,rfl,hb⟩:=hrel
   by_cases hlt:k<n
   ·have hc:=hcell k hlt
    have hc8:(l.getD k 0).toNat<256:=(l.getD k 0).toNat_lt
    clear hcell hcv
    generalize hx:(l.getD k 0).toNat=x at *
    have HX:=Ac hx
    clear hx
    by_cases hnb:De x=true
    ·have HNB:=Ac hnb
     have hnb':(97≤x∧x≤122)∨(48≤x∧x≤57)∨x=95:=by simpa [De,or_assoc] using hnb
     clear hnb
     go_wp2
     all_goals first
      | exact ⟨⟨k+1,by omega,Bl (by omega),trivial,Ac (fun j hj=>by
        by_cases hjk:j=k
        ·subst hjk;rw [HX.out];exact HNB.out
        ·exact hb.out j (by omega))⟩,by simp [intOf];omega⟩
      | (exfalso;simp at *;omega)
    ·have hnb':¬ ((97≤x∧x≤122)∨(48≤x∧x≤57)∨x=95):=fun h=>hnb (by simpa [De,or_assoc] using h)
     have hf:(l.all fun b=>De b.toNat)=false:=by
      rw [List.all_eq_false]
      have hkl:k<l.length:=by rw [HL.out];exact hlt
      refine ⟨l[k],List.getElem_mem _,?_⟩
      have:l.getD k 0=l[k]:=by simp [List.getD,List.getElem?_eq_getElem hkl]
      rw [←this,HX.out]
      exact hnb
     have HF:=Ac hf
     clear hnb hf
     go_wp2
     all_goals first
      | (go_ret;rw [HF.out];exact ⟨rfl,gw⟩)
      | (exfalso;simp at *;omega)
   ·obtain rfl:k=n:=by omega
    have ht:(l.all fun b=>De b.toNat)=true:=by
     rw [List.all_eq_true]
     intro b hbm
     obtain ⟨j,hj,rfl⟩:=List.mem_iff_getElem.1 hbm
     have:=hb.out j (by have:=HL.out;omega)
     rwa [show l.getD j 0=l[j] by simp [List.getD,List.getElem?_eq_getElem hj]] at this
    have HT:=Ac ht
    clear ht hb
    go_wp2
    go_ret
    rw [HT.out]
    exact ⟨rfl,gw⟩
 ·have hr:D9 s.data.toList=false:=by
   unfold D9;rw [hlen]
   have:¬ (1≤s.size∧s.size≤16):=hl
   by_cases h1:1≤s.size
   ·have h2:¬ s.size≤16:=fun h=>hl ⟨h1,h⟩
    simp [h2]
   ·simp [h1]
  rw [hr]
  clear hlen hr
  generalize hn:s.size=n at *
  go_enter Tryz.func252,Tryz.ntmps252
  by_cases h1:n<1
  ·go_wp2
   go_ret
   exact ⟨rfl,Al _ _⟩
  ·have h2:16<n:=by omega
   go_wp2
   go_ret
   exact ⟨rfl,Al _ _⟩
end
section
open Go.RowKit
open Rat
def I64 (x:Int):Prop:=-9223372036854775808≤x∧x≤9223372036854775807
def NumRow (w:World) (v:Value) (ns:List (Int × Int)):Prop :=
 ∃ A c,v=.slice A ns.length c∧ns.length≤c∧c≤9223372036854775807∧(∀ p∈ns,I64 p.1∧I64 p.2)∧
  (0<ns.length→∃ b o,A=some ⟨b,o,none⟩∧∀ i,i<ns.length→w.cell? ⟨b,o+i*2,none⟩=some (.int .i64 (ns.getD i (0,0)).1)∧w.cell? ⟨b,o+i*2+1,none⟩=some (.int .i64 (ns.getD i (0,0)).2))
theorem NumRow.more {w w':World} {v:Value} {ns:List (Int × Int)} (h:NumRow w v ns) (hg:w.grownBy w' none):NumRow w' v ns:=by
 obtain ⟨A,c,rfl,h1,h2,h3,h4⟩:=h
 refine ⟨A,c,rfl,h1,h2,h3,fun hp=>?_⟩
 obtain ⟨b,o,rfl,hc⟩:=h4 hp
 exact ⟨b,o,rfl,fun i hi=>⟨Aj hg (hc i hi).1 (by simp),Aj hg (hc i hi).2 (by simp)⟩⟩
theorem NumRow.i64 {w:World} {v:Value} {ns:List (Int × Int)} (h:NumRow w v ns) (i:Nat):I64 (ns.getD i (0,0)).1∧I64 (ns.getD i (0,0)).2:=by
 obtain ⟨A,c,_,_,_,h3,_⟩:=h
 by_cases hi:i<ns.length
 ·have:ns.getD i (0,0)=ns[i]:=by simp [List.getD,List.getElem?_eq_getElem hi]
  rw [this];exact h3 _ (List.getElem_mem _)
 ·have:ns.getD i (0,0)=(0,0):=by simp [List.getD,List.getElem?_eq_none (Nat.le_of_not_lt hi)]
  rw [this];exact ⟨⟨by decide,by decide⟩,by decide,by decide⟩
def Bu (p:Int × Int):Bool:=decide (NumOK p.1 p.2)
def pQ (p:Int × Int):Rat:=numQ p.1 p.2
def Bk (nm:List UInt8) (kind:Int) (gs vs:List (Int × Int)):Bool :=
  D9 nm&&gs.all Bu&&vs.all Bu &&
    (if kind=115 then decide (gs.length=2)&&decide (vs.length=1)
     else if kind=100 then decide (1≤gs.length)&&decide (gs.length≤4)&&decide (vs.length+1=gs.length)&&decide (∀ i,i<vs.length→1≤i→pQ (vs.getD (i-1) (0,0))<pQ (vs.getD i (0,0)))
     else false)
theorem F8 {l:List (Int × Int)} {k:Nat} (hk:k<l.length) (h:Bu (l.getD k (0,0))=false):l.all Bu=false:=by
 rw [List.all_eq_false]
 refine ⟨l[k],List.getElem_mem _,?_⟩
 rw [show l.getD k (0,0)=l[k] by simp [List.getD,List.getElem?_eq_getElem hk]] at h
 simp [h]
theorem Ez {l:List (Int × Int)} (h:∀ t,t<l.length→Bu (l.getD t (0,0))=true):l.all Bu=true:=by
 rw [List.all_eq_true]
 intro x hx
 obtain ⟨j,hj,rfl⟩:=List.mem_iff_getElem.1 hx
 have:=h j hj
 rwa [show l.getD j (0,0)=l[j] by simp [List.getD,List.getElem?_eq_getElem hj]] at this
theorem Jh {l:List (Int × Int)} (h:l.all Bu=true) (k:Nat) (hk:k<l.length):NumOK (l.getD k (0,0)).1 (l.getD k (0,0)).2:=by
 rw [List.all_eq_true] at h
 have:=h l[k] (List.getElem_mem _)
 rw [show l.getD k (0,0)=l[k] by simp [List.getD,List.getElem?_eq_getElem hk]]
 simpa [Bu] using this
theorem Nx {nm:List UInt8} {kind:Int} {gs vs:List (Int × Int)} (h:gs.all Bu=false):Bk nm kind gs vs=false:=by simp [Bk,h]
theorem Ny {nm:List UInt8} {kind:Int} {gs vs:List (Int × Int)} (h:vs.all Bu=false):Bk nm kind gs vs=false:=by simp [Bk,h]
set_option maxRecDepth 100000 in
theorem G6 (w:World) (nm:ByteArray) (kind:Int) (vg vv:Value) (gs vs:List (Int × Int)) (hk1:0≤kind) (hk2:kind≤255) (hg:NumRow w vg gs) (hv:NumRow w vv vs) :
    Calls Tryz.prog 205 #[.agg #[.string nm,.int .u8 kind,vg,vv]] w fun e w'=>e=.returned (.bool (Bk nm.data.toList kind gs vs))∧w.grownBy w' none:=by
  have gw:=fun vg vv=>Af w (.cells #[.string nm,.int .u8 kind,vg,vv] 87) none
  have hB:=fun vg vv=>Blk.new w #[.string nm,.int .u8 kind,vg,vv] 87
  have hgi:=hg.i64
  have hvi:=hv.i64
  have hg1:=fun v=>hg.more (gw v vv)
  have hv1:=fun v=>hv.more (gw vg v)
  obtain ⟨A1,c1,rfl,a1,a2,a3,a4⟩:=hg
  obtain ⟨A2,c2,rfl,b1,b2,b3,b4⟩:=hv
  obtain ⟨m0,m1,m2,m3,_⟩:=(hB (.slice A1 gs.length c1) (.slice A2 vs.length c2)).four
  have gw':=gw (.slice A1 gs.length c1) (.slice A2 vs.length c2)
  go_enter Tryz.func205,Tryz.ntmps205
  go_wp2_with fail
  generalize w.alloc (.cells #[.string nm,.int .u8 kind,.slice A1 gs.length c1,.slice A2 vs.length c2] 87)=wa at *
  generalize hs:w.heap.size=s at *
  refine (Na wa nm).mono ?_
  rintro e w1 ⟨rfl,hw1⟩
  cases hnm:D9 nm.data.toList with
  | false =>
    have hr:Bk nm.data.toList kind gs vs=false:=by simp [Bk,hnm]
    have HR:=Ac hr
    clear hnm hr
    go_wp2
    go_ret
    rw [HR.out]
    exact ⟨rfl,Ae gw' hw1⟩
  | true =>
    have HNM:=Ac hnm
    clear hnm
    have n0:=Aj hw1 m0 (by simp)
    have n1:=Aj hw1 m1 (by simp)
    have n2:=Aj hw1 m2 (by simp)
    have n3:=Aj hw1 m3 (by simp)
    have i0:∀ W:World,(Instr.index 318 (.agg #[.slice A1 gs.length c1,.slice A2 vs.length c2]) (.int .i64 0)).run Tryz.prog W=.ok (.slice A1 gs.length c1) W:=fun _=>by kernel_rfl
    have i1:∀ W:World,(Instr.index 318 (.agg #[.slice A1 gs.length c1,.slice A2 vs.length c2]) (.int .i64 1)).run Tryz.prog W=.ok (.slice A2 vs.length c2) W:=fun _=>by kernel_rfl
    go_wp2
    go_loopw [19] (fun i wr=>∃ z:Int,i=.int .i64 z∧(z=0∨(z=1∧Hid (gs.all Bu=true))∨(z=2∧Hid (gs.all Bu=true∧vs.all Bu=true)))∧w1.grownBy wr none) (fun i _=>(2-intOf i).toNat)
    case atStart=>exact ⟨0,rfl,.inl rfl,Al _ _⟩
    case round =>
      obtain ⟨j,rfl,hj,hgr⟩:=hrel
      rcases hj with rfl | ⟨rfl,hall⟩ | ⟨rfl,hall⟩
      rotate_right 1
      · have k1:=Aj hgr n1 (by simp)
        have k2:=Aj hgr n2 (by simp)
        have k3:=Aj hgr n3 (by simp)
        have gE:=Ae gw' (Ae hw1 hgr)
        have hM:Bk nm.data.toList kind gs vs=(if kind=115 then decide (gs.length=2)&&decide (vs.length=1)
     else if kind=100 then decide (1≤gs.length)&&decide (gs.length≤4)&&decide (vs.length+1=gs.length)&&decide (∀ i,i<vs.length→1≤i→pQ (vs.getD (i-1) (0,0))<pQ (vs.getD i (0,0)))
     else false):=by unfold Bk;rw [HNM.out,hall.out.1,hall.out.2];simp
        by_cases h115:kind=115
        · rw [if_pos h115] at hM
          have HM:=Ac hM
          subst h115
          clear hM n0 n1 n2 n3 m0 m1 m2 m3 i0 i1 hall hgi hvi a3 a4 b3 b4
          generalize gs.length=lg at *
          generalize vs.length=lv at *
          go_wp2
          all_goals
            go_ret
            rw [HM.out]
            exact ⟨Ao (by rw [Bool.eq_iff_iff];simp;try omega),gE⟩
        · rw [if_neg h115] at hM
          have t115:(kind==115)=false:=by rw [beq_eq_false_iff_ne];exact h115
          by_cases h100:kind=100
          · rw [if_pos h100] at hM
            by_cases hL:1≤gs.length∧gs.length≤4∧vs.length+1=gs.length
            · obtain ⟨L1,L2,L3⟩:=hL
              rw [decide_eq_true L1,decide_eq_true L2,decide_eq_true L3,Bool.true_and,Bool.true_and,Bool.true_and] at hM
              have HM:=Ac hM
              subst h100
              clear hM hgi a3 a4
              have HA:=Ac hall.out.2
              have hvl:vs.length≤3:=by omega
              clear m0 m1 m2 m3 i0 i1 h115 gw hB hg1 hv1
              have t3:((vs.length:Int) != (gs.length:Int)-1)=false:=by rw [bne_eq_false_iff_eq];omega
              have t4:(vs.length:Int)=(gs.length:Int)-1:=by omega
              go_wp2
              clear t3 t4 L1 L2 L3 k1 k2 k3
              generalize gs.length=lg at *
              obtain ⟨wo,rfl⟩:∃ wo:World,wo=wr:=⟨_,rfl⟩
              go_loopw [7] (fun i wr=>∃ m:Nat,(m=0∨m<vs.length)∧i=.int .i64 ((m:Int)+1)∧w1.grownBy wr none∧Hid (∀ t,t<m→pQ (vs.getD t (0,0))<pQ (vs.getD (t+1) (0,0)))) (fun i _=>(vs.length-intOf i).toNat)
              case atStart=>exact ⟨0,.inl rfl,Bl (by omega),hgr,Ac (fun t ht=>by omega)⟩
              case round =>
                obtain ⟨m,hm,rfl,hgm,hord⟩:=hrel
                have k3:=Aj hgm n3 (by simp)
                by_cases hlt:m+1<vs.length
                · obtain ⟨b,o,rfl,hc⟩:=b4 (by omega)
                  obtain ⟨p0,p1⟩:=hc m (by omega)
                  obtain ⟨p2,p3⟩:=hc (m+1) hlt
                  have q0:=Aj hgm (Aj hw1 (Aj gw' p0 (by simp)) (by simp)) (by simp)
                  have q1:=Aj hgm (Aj hw1 (Aj gw' p1 (by simp)) (by simp)) (by simp)
                  have q2:=Aj hgm (Aj hw1 (Aj gw' p2 (by simp)) (by simp)) (by simp)
                  have q3:=Aj hgm (Aj hw1 (Aj gw' p3 (by simp)) (by simp)) (by simp)
                  have ok1:=Jh HA.out m (by omega)
                  have ok2:=Jh HA.out (m+1) hlt
                  clear hc p0 p1 p2 p3
                  generalize hp:vs.getD m (0,0)=p at *
                  generalize hq:vs.getD (m+1) (0,0)=q at *
                  have HP:=Ac hp
                  have HQ:=Ac hq
                  obtain ⟨x1,y1⟩:=p
                  obtain ⟨x2,y2⟩:=q
                  simp only at q0 q1 q2 q3 ok1 ok2
                  have OK1:=Ac ok1
                  have OK2:=Ac ok2
                  have e1:IntKind.i64.wrap ((m:Int)+1-1)=(m:Int):=by rw [show (m:Int)+1-1=m by omega];exact IntWalk.i64_in _ (by omega)
                  have e1':IntKind.i64.wrap (m:Int)=(m:Int):=IntWalk.i64_in _ (by omega)
                  have e6:IntKind.i64.wrap ((m:Int)+1)=(m:Int)+1:=IntWalk.i64_in _ (by omega)
                  have e7:(0:Int)≤(m:Int):=by omega
                  have e2:((m:Int)+1).toNat=m+1:=by omega
                  have e3:(m:Int)+1<(vs.length:Int):=by omega
                  have e4:(m:Int)<(vs.length:Int):=by omega
                  have e5:(0:Int)≤(m:Int)+1:=by omega
                  clear hp hq ok1 ok2
                  have hR:cmpQ (numQ x1 y1) (numQ x2 y2)<0↔pQ (vs.getD m (0,0))<pQ (vs.getD (m+1) (0,0)):=by
                    rw [HP.out,HQ.out]
                    unfold cmpQ pQ
                    by_cases hpq:numQ x1 y1<numQ x2 y2
                    · simp [hpq]
                    · by_cases heq:numQ x1 y1=numQ x2 y2<;>simp [hpq,heq]
                  have HR:=Ac hR
                  clear hR
                  obtain ⟨R,hRR⟩:∃ R,cmpQ (numQ x1 y1) (numQ x2 y2)=R:=⟨_,rfl⟩
                  have HRR:=Ac hRR
                  clear hRR
                  generalize hlv:vs.length=lv at *
                  have HLV:=Ac hlv
                  clear hlv
                  have K:∀ w',wr.grownBy w' none→w'.cell? ⟨s,3,none⟩=some (.slice (some ⟨b,o,none⟩) lv c2)∧w'.cell? ⟨b,o+m*2,none⟩=some (.int .i64 x1)∧w'.cell? ⟨b,o+m*2+1,none⟩=some (.int .i64 y1)∧w'.cell? ⟨b,o+(m+1)*2,none⟩=some (.int .i64 x2)∧w'.cell? ⟨b,o+(m+1)*2+1,none⟩=some (.int .i64 y2):=fun w' h=>⟨Aj h k3 (by simp),Aj h q0 (by simp),Aj h q1 (by simp),Aj h q2 (by simp),Aj h q3 (by simp)⟩
                  have HK:=Ac K
                  clear K
                  go_wp2_with fail
                  go_region_held3 (fun w'=>w'.cell? ⟨s,3,none⟩=some (.slice (some ⟨b,o,none⟩) lv c2)∧w'.cell? ⟨b,o+m*2,none⟩=some (.int .i64 x1)∧w'.cell? ⟨b,o+m*2+1,none⟩=some (.int .i64 y1)∧w'.cell? ⟨b,o+(m+1)*2,none⟩=some (.int .i64 x2)∧w'.cell? ⟨b,o+(m+1)*2+1,none⟩=some (.int .i64 y2)) ((refine HK.out _ ?_;(focus ((repeat (first | assumption | exact Al _ _ | exact Ai _ _ | exact Af _ _ _ | refine Ae ?_ (Af _ _ _) | refine Ae ?_ (Ai _ _) | refine Ae ?_ (by assumption)));done))))
                    ((go_at_call 253;refine (Tx _ x1 y1 x2 y2 OK1.out OK2.out).mono ?_;rintro o' w4 ⟨rfl,hg4⟩;rw [HRR.out]))
                  have g4:w1.grownBy w4 none:=Ae hgm (by (focus ((repeat (first | assumption | exact Al _ _ | exact Ai _ _ | exact Af _ _ _ | refine Ae ?_ (Af _ _ _) | refine Ae ?_ (Ai _ _) | refine Ae ?_ (by assumption)));done)))
                  clear e1 e1' e2 e3 e4 e5 e6 e7 hgm hgr
                  by_cases hR0:R<0
                  · have HO:Hid (pQ (vs.getD m (0,0))<pQ (vs.getD (m+1) (0,0))):=Ac (HR.out.1 (by rw [HRR.out];exact hR0))
                    go_wp2
                    exact ⟨⟨m+1,.inr (by omega),Bl (by omega),g4,Ac (fun t ht=>by
                      by_cases htm:t=m
                      · subst htm;exact HO.out
                      · exact hord.out t (by omega))⟩,by simp [intOf];omega⟩
                  · have hno:¬ pQ (vs.getD m (0,0))<pQ (vs.getD (m+1) (0,0)):=fun h=>hR0 (by rw [←HRR.out];exact HR.out.2 h)
                    have hfin:Bk nm.data.toList 100 gs vs=false:=by
                      rw [HM.out,decide_eq_false_iff_not]
                      intro h
                      have:=h (m+1) hlt (by omega)
                      exact hno this
                    have HF:=Ac hfin
                    clear hno hfin
                    go_wp2
                    go_ret
                    rw [HF.out]
                    exact ⟨rfl,Ae gw' (Ae hw1 g4)⟩
                · have hfin:Bk nm.data.toList 100 gs vs=true:=by
                    rw [HM.out,decide_eq_true_iff]
                    intro i hi h1
                    have:=hord.out (i-1) (by omega)
                    rwa [show i-1+1=i by omega] at this
                  have HF:=Ac hfin
                  have hge:¬ ((m:Int)+1<(vs.length:Int)):=by omega
                  clear hfin hord hm
                  generalize vs.length=lv at *
                  go_wp2
                  go_ret
                  rw [HF.out]
                  exact ⟨rfl,Ae gw' (Ae hw1 hgm)⟩
            · have hM':Bk nm.data.toList kind gs vs=false:=by
                rw [hM]
                by_cases h1:1≤gs.length
                · by_cases h2:gs.length≤4
                  · have h3:¬ vs.length+1=gs.length:=fun h=>hL ⟨h1,h2,h⟩
                    simp [h3]
                  · simp [h2]
                · simp [h1]
              have HM:=Ac hM'
              subst h100
              clear hM hM' n0 n1 n2 n3 m0 m1 m2 m3 i0 i1 hall hgi hvi a3 a4 b3 b4
              generalize gs.length=lg at *
              generalize vs.length=lv at *
              by_cases h1:lg<1
              · go_wp2
                all_goals (go_ret;rw [HM.out];exact ⟨rfl,gE⟩)
              · by_cases h2:4<lg
                · go_wp2
                  all_goals (go_ret;rw [HM.out];exact ⟨rfl,gE⟩)
                · have h3:((lv:Int)==(lg:Int)-1)=false:=by rw [beq_eq_false_iff_ne];intro h;exact hL ⟨by omega,by omega,by omega⟩
                  have h4:¬ ((lv:Int)=(lg:Int)-1):=by intro h;exact hL ⟨by omega,by omega,by omega⟩
                  clear hL
                  go_wp2
                  all_goals first
                    | (go_ret;rw [HM.out];exact ⟨rfl,gE⟩)
                    | (exfalso;simp at *;omega)
          · rw [if_neg h100] at hM
            have HM:=Ac hM
            have t100:(kind==100)=false:=by rw [beq_eq_false_iff_ne];exact h100
            clear hM n0 n1 n2 n3 m0 m1 m2 m3 i0 i1 hall hgi hvi a3 a4 b3 b4 h115 h100
            go_wp2
            all_goals (go_ret;rw [HM.out];exact ⟨rfl,gE⟩)
      · skip
        · go_wp2
          obtain ⟨wo,rfl⟩:∃ wo:World,wo=wr:=⟨_,rfl⟩
          go_loopw [24] (fun i wr=>∃ k:Nat,k≤gs.length∧i=.int .i64 k∧w1.grownBy wr none∧Hid (∀ t,t<k→Bu (gs.getD t (0,0))=true)) (fun i _=>(gs.length-intOf i).toNat)
          case atStart=>exact ⟨0,by omega,rfl,hgr,Ac (fun t ht=>by omega)⟩
          case round =>
            obtain ⟨k,hk,rfl,hg,hb⟩:=hrel
            by_cases hlt:k<gs.length
            · obtain ⟨b,o,rfl,hc⟩:=a4 (by omega)
              obtain ⟨p0,p1⟩:=hc k hlt
              have q0:=Aj hg (Aj hw1 (Aj gw' p0 (by simp)) (by simp)) (by simp)
              have q1:=Aj hg (Aj hw1 (Aj gw' p1 (by simp)) (by simp)) (by simp)
              obtain ⟨⟨u1,u2⟩,u3,u4⟩:=hgi k
              clear hc p0 p1
              generalize hp:gs.getD k (0,0)=p at *
              have HP:=Ac hp
              clear hp
              obtain ⟨m,e⟩:=p
              simp only at q0 q1 u1 u2 u3 u4
              go_wp2_with fail
              refine (Bd _ m e u1 u2 u3 u4).mono ?_
              rintro e' w3 ⟨rfl,hg3⟩
              have g3:=Ae hg (Ae (Af wr (.cells #[.int .i64 m,.int .i64 e] 25) none) hg3)
              cases hd:decide (NumOK m e) with
              | false =>
                have hr:Bk nm.data.toList kind gs vs=false:=Nx (F8 hlt (by rw [HP.out];exact hd))
                have HR:=Ac hr
                clear hd hr
                go_wp2
                go_ret
                rw [HR.out]
                exact ⟨rfl,Ae gw' (Ae hw1 g3)⟩
              | true =>
                have HD:Hid (Bu (gs.getD k (0,0))=true):=Ac (by rw [HP.out];exact hd)
                clear hd
                go_wp2
                exact ⟨⟨k+1,by omega,Bl (by omega),g3,Ac (fun t ht=>by
                  by_cases htk:t=k
                  · subst htk;exact HD.out
                  · exact hb.out t (by omega))⟩,by simp [intOf];omega⟩
            · obtain rfl:k=gs.length:=by omega
              have HA:Hid (gs.all Bu=true):=Ac (Ez hb.out)
              clear hb
              go_wp2
              exact ⟨⟨1,rfl,.inr (.inl ⟨rfl,HA⟩),hg⟩,by simp [intOf]⟩
      · skip
        · go_wp2
          obtain ⟨wo,rfl⟩:∃ wo:World,wo=wr:=⟨_,rfl⟩
          go_loopw [24] (fun i wr=>∃ k:Nat,k≤vs.length∧i=.int .i64 k∧w1.grownBy wr none∧Hid (∀ t,t<k→Bu (vs.getD t (0,0))=true)) (fun i _=>(vs.length-intOf i).toNat)
          case atStart=>exact ⟨0,by omega,rfl,hgr,Ac (fun t ht=>by omega)⟩
          case round =>
            obtain ⟨k,hk,rfl,hg,hb⟩:=hrel
            by_cases hlt:k<vs.length
            · obtain ⟨b,o,rfl,hc⟩:=b4 (by omega)
              obtain ⟨p0,p1⟩:=hc k hlt
              have q0:=Aj hg (Aj hw1 (Aj gw' p0 (by simp)) (by simp)) (by simp)
              have q1:=Aj hg (Aj hw1 (Aj gw' p1 (by simp)) (by simp)) (by simp)
              obtain ⟨⟨u1,u2⟩,u3,u4⟩:=hvi k
              clear hc p0 p1
              generalize hp:vs.getD k (0,0)=p at *
              have HP:=Ac hp
              clear hp
              obtain ⟨m,e⟩:=p
              simp only at q0 q1 u1 u2 u3 u4
              go_wp2_with fail
              refine (Bd _ m e u1 u2 u3 u4).mono ?_
              rintro e' w3 ⟨rfl,hg3⟩
              have g3:=Ae hg (Ae (Af wr (.cells #[.int .i64 m,.int .i64 e] 25) none) hg3)
              cases hd:decide (NumOK m e) with
              | false =>
                have hr:Bk nm.data.toList kind gs vs=false:=Ny (F8 hlt (by rw [HP.out];exact hd))
                have HR:=Ac hr
                clear hd hr
                go_wp2
                go_ret
                rw [HR.out]
                exact ⟨rfl,Ae gw' (Ae hw1 g3)⟩
              | true =>
                have HD:Hid (Bu (vs.getD k (0,0))=true):=Ac (by rw [HP.out];exact hd)
                clear hd
                go_wp2
                exact ⟨⟨k+1,by omega,Bl (by omega),g3,Ac (fun t ht=>by
                  by_cases htk:t=k
                  · subst htk;exact HD.out
                  · exact hb.out t (by omega))⟩,by simp [intOf];omega⟩
            · obtain rfl:k=vs.length:=by omega
              have HA:Hid (vs.all Bu=true):=Ac (Ez hb.out)
              clear hb
              go_wp2
              exact ⟨⟨2,rfl,.inr (.inr ⟨rfl,Ac ⟨hall.out,HA.out⟩⟩),hg⟩,by simp [intOf]⟩
end
section
open Go.RowKit
open Rat
def Recs (w:World) (k:Nat) (v:Value) (n:Nat) (cs:Nat→List Value):Prop :=
 ∃ A c,v=.slice A n c∧n≤c∧c≤9223372036854775807∧
  (0<n→∃ b o,A=some ⟨b,o,none⟩∧∀ i,i<n→∀ j,j<k→∃ u,(cs i)[j]? = some u∧w.cell? ⟨b,o+i*k+j,none⟩=some u)
theorem Recs.more {w w':World} {k:Nat} {v:Value} {n:Nat} {cs:Nat→List Value} (h:Recs w k v n cs) (hg:w.grownBy w' none):Recs w' k v n cs:=by
 obtain ⟨A,c,rfl,h1,h2,h4⟩:=h
 refine ⟨A,c,rfl,h1,h2,fun hp=>?_⟩
 obtain ⟨b,o,rfl,hc⟩:=h4 hp
 refine ⟨b,o,rfl,fun i hi j hj=>?_⟩
 obtain ⟨u,hu,hcell⟩:=hc i hi j hj
 exact ⟨u,hu,Aj hg hcell (by simp)⟩
structure CellP where
 col:Int
 neg:Bool
 limbs:List Nat
def Br:CellP:=⟨0,false,[]⟩
def CellP.z (c:CellP):Int:=sg c.neg (val 4294967296 c.limbs)
structure RowP where
 mneg:Bool
 mlimbs:List Nat
 a:List CellP
 h:List CellP
 s:List CellP
 kneg:Bool
 klimbs:List Nat
def row0:RowP:=⟨false,[],[],[],[],false,[]⟩
def RowP.k (r:RowP):Int:=sg r.kneg (val 4294967296 r.klimbs)
def CellRow (w:World) (v:Value) (l:List CellP):Prop :=
 ∃ A c,v=.slice A l.length c∧l.length≤c∧c≤9223372036854775807∧
  (0<l.length→∃ b o,A=some ⟨b,o,none⟩∧∀ i,i<l.length→∃ u,I64 (l.getD i Br).col∧w.cell? ⟨b,o+i*3,none⟩=some (.int .i64 (l.getD i Br).col)∧w.cell? ⟨b,o+i*3+1,none⟩=some (.bool (l.getD i Br).neg)∧w.cell? ⟨b,o+i*3+2,none⟩=some u∧Nums w u (l.getD i Br).limbs)
theorem CellRow.more {w w':World} {v:Value} {l:List CellP} (h:CellRow w v l) (hg:w.grownBy w' none):CellRow w' v l:=by
 obtain ⟨A,c,rfl,h1,h2,h4⟩:=h
 refine ⟨A,c,rfl,h1,h2,fun hp=>?_⟩
 obtain ⟨b,o,rfl,hc⟩:=h4 hp
 refine ⟨b,o,rfl,fun i hi=>?_⟩
 obtain ⟨u,hI,c0,c1,c2,hn⟩:=hc i hi
 exact ⟨u,hI,Aj hg c0 (by simp),Aj hg c1 (by simp),Aj hg c2 (by simp),hn.more hg⟩
theorem CellRow.ctor {w:World} {v:Value} {l:List CellP} (h:CellRow w v l):∃ A c,v=.slice A l.length c∧l.length≤c∧c≤9223372036854775807:=by
 obtain ⟨A,c,rfl,h1,h2,_⟩:=h
 exact ⟨A,c,rfl,h1,h2⟩
theorem CellRow.at {w:World} {A:Option Addr} {n c:Nat} {l:List CellP} (h:CellRow w (.slice A n c) l) {i:Nat} (hi:i<l.length) :
  ∃ b o A' n' c',A=some ⟨b,o,none⟩∧I64 (l.getD i Br).col∧w.cell? ⟨b,o+i*3,none⟩=some (.int .i64 (l.getD i Br).col)∧w.cell? ⟨b,o+i*3+1,none⟩=some (.bool (l.getD i Br).neg)∧w.cell? ⟨b,o+i*3+2,none⟩=some (.slice A' n' c')∧Nums w (.slice A' n' c') (l.getD i Br).limbs:=by
 obtain ⟨A0,c0,he,h1,h2,h4⟩:=h
 injection he with e1 e2 e3
 subst e1
 obtain ⟨b,o,rfl,hc⟩:=h4 (by omega)
 obtain ⟨u,hI,c0,c1,c2,hn⟩:=hc i hi
 obtain ⟨A',n',c',rfl⟩:=hn.ctor
 exact ⟨b,o,A',n',c',rfl,hI,c0,c1,c2,hn⟩
def RowV (w:World) (cs:List Value) (r:RowP):Prop :=
 ∃ vm va vh vs vk,cs=[.bool r.mneg,vm,va,vh,vs,.bool r.kneg,vk]∧Nums w vm r.mlimbs∧CellRow w va r.a∧CellRow w vh r.h∧CellRow w vs r.s∧Nums w vk r.klimbs
theorem RowV.more {w w':World} {cs:List Value} {r:RowP} (h:RowV w cs r) (hg:w.grownBy w' none):RowV w' cs r:=by
 obtain ⟨vm,va,vh,vs,vk,rfl,h1,h2,h3,h4,h5⟩:=h
 exact ⟨vm,va,vh,vs,vk,rfl,h1.more hg,h2.more hg,h3.more hg,h4.more hg,h5.more hg⟩
def SysRow (w:World) (v:Value) (l:List RowP):Prop :=
 ∃ A c,v=.slice A l.length c∧l.length≤c∧c≤9223372036854775807∧
  (0<l.length→∃ b o,A=some ⟨b,o,none⟩∧∀ i,i<l.length→∃ cs,RowV w cs (l.getD i row0)∧∀ j,j<7→w.cell? ⟨b,o+i*7+j,none⟩=cs[j]?)
theorem SysRow.more {w w':World} {v:Value} {l:List RowP} (h:SysRow w v l) (hg:w.grownBy w' none):SysRow w' v l:=by
 obtain ⟨A,c,rfl,h1,h2,h4⟩:=h
 refine ⟨A,c,rfl,h1,h2,fun hp=>?_⟩
 obtain ⟨b,o,rfl,hc⟩:=h4 hp
 refine ⟨b,o,rfl,fun i hi=>?_⟩
 obtain ⟨cs,hr,hcell⟩:=hc i hi
 refine ⟨cs,hr.more hg,fun j hj=>?_⟩
 have hl:cs.length=7:=by obtain ⟨_,_,_,_,_,rfl,_⟩:=hr;rfl
 have e:=hcell j hj
 rw [List.getElem?_eq_getElem (by omega)] at e ⊢
 exact Aj hg e (by simp)
theorem SysRow.ctor {w:World} {v:Value} {l:List RowP} (h:SysRow w v l):∃ A c,v=.slice A l.length c∧l.length≤c∧c≤9223372036854775807:=by
 obtain ⟨A,c,rfl,h1,h2,_⟩:=h
 exact ⟨A,c,rfl,h1,h2⟩
theorem SysRow.at {w:World} {A:Option Addr} {n c:Nat} {l:List RowP} (h:SysRow w (.slice A n c) l) {i:Nat} (hi:i<l.length) :
  ∃ b o Am nm cm Aa ca Ah ch As cs Ak nk ck,A=some ⟨b,o,none⟩∧
   w.cell? ⟨b,o+i*7,none⟩=some (.bool (l.getD i row0).mneg)∧w.cell? ⟨b,o+i*7+1,none⟩=some (.slice Am nm cm)∧
   w.cell? ⟨b,o+i*7+2,none⟩=some (.slice Aa (l.getD i row0).a.length ca)∧w.cell? ⟨b,o+i*7+3,none⟩=some (.slice Ah (l.getD i row0).h.length ch)∧w.cell? ⟨b,o+i*7+4,none⟩=some (.slice As (l.getD i row0).s.length cs)∧
   w.cell? ⟨b,o+i*7+5,none⟩=some (.bool (l.getD i row0).kneg)∧w.cell? ⟨b,o+i*7+6,none⟩=some (.slice Ak nk ck)∧
   Nums w (.slice Am nm cm) (l.getD i row0).mlimbs∧CellRow w (.slice Aa (l.getD i row0).a.length ca) (l.getD i row0).a∧CellRow w (.slice Ah (l.getD i row0).h.length ch) (l.getD i row0).h∧CellRow w (.slice As (l.getD i row0).s.length cs) (l.getD i row0).s∧Nums w (.slice Ak nk ck) (l.getD i row0).klimbs:=by
 obtain ⟨A0,c0,he,h1,h2,h4⟩:=h
 injection he with e1 e2 e3
 subst e1
 obtain ⟨b,o,rfl,hc⟩:=h4 (by omega)
 obtain ⟨cs,⟨vm,va,vh,vs,vk,rfl,r1,r2,r3,r4,r5⟩,hcell⟩:=hc i hi
 obtain ⟨Am,nm,cm,rfl⟩:=r1.ctor
 obtain ⟨Aa,ca,rfl,_⟩:=r2.ctor
 obtain ⟨Ah,ch,rfl,_⟩:=r3.ctor
 obtain ⟨As,cs,rfl,_⟩:=r4.ctor
 obtain ⟨Ak,nk,ck,rfl⟩:=r5.ctor
 exact ⟨b,o,Am,nm,cm,Aa,ca,Ah,ch,As,cs,Ak,nk,ck,rfl,hcell 0 (by omega),hcell 1 (by omega),hcell 2 (by omega),hcell 3 (by omega),hcell 4 (by omega),hcell 5 (by omega),hcell 6 (by omega),r1,r2,r3,r4,r5⟩
/-! ### what is right -/
def Iz (n:Int) (l:List CellP) (i:Nat):Prop :=
 0≤(l.getD i Br).col∧(l.getD i Br).col<n∧(0<i→(l.getD (i-1) Br).col<(l.getD i Br).col)∧IntOK (l.getD i Br).neg (l.getD i Br).limbs∧(l.getD i Br).limbs≠[]
instance (n:Int) (l:List CellP) (i:Nat):Decidable (Iz n l i):=by unfold Iz;infer_instance
def Dh (n:Int) (l:List CellP):Prop:=∀ i,i<l.length→Iz n l i
instance (n:Int) (l:List CellP):Decidable (Dh n l):=by unfold Dh;infer_instance
def Pk (n:Int) (r:RowP):Prop :=
 IntOK r.mneg r.mlimbs∧r.mneg=false∧r.mlimbs≠[]∧IntOK r.kneg r.klimbs∧Dh n r.a∧Dh n r.h∧Dh 64 r.s
instance (n:Int) (r:RowP):Decidable (Pk n r):=by unfold Pk;infer_instance
def Vw (l:List RowP):Prop:=l.length≤48∧∀ i,i<l.length→Pk l.length (l.getD i row0)
instance (l:List RowP):Decidable (Vw l):=by unfold Vw;infer_instance
def sysE (l:List RowP):Int:=if Vw l then 0 else 130
end
section
open Go.RowKit
open Classical in
noncomputable def gr (w p:World):World:=if w.grownBy p none then p else w
theorem Bc (w p:World):w.grownBy (gr w p) none:=by
 unfold gr;split
 ·assumption
 ·exact Al _ _
theorem A1k {w p:World} (h:w.grownBy p none):p=gr w p:=by unfold gr;rw [if_pos h]
theorem B8 {w:World} {a:Nat} {o:Nat} {v:Value} (h:w.cell? ⟨a,o,none⟩=some v) (p:World):(gr w p).cell? ⟨a,o,none⟩=some v:=Aj (Bc w p) h (by simp)
theorem Bq {P:Program} {id:Nat} {Q:Exit→Act→World→Prop} {a:Act} {w:World} {l:List Oper} (hm:P.follows .mixedOrders=true) (hB:Region.lexB .any l.toArray=true)
  (h:wpQuiet P l.toArray (fun w'=>∃ p:World,w'=gr w p) (fun a'=>∀ w',(∃ p:World,w'=gr w p)→Q .normal a' w') l a):(Code.region id l.toArray true).wp P Q a w :=
 wp_region_quiet (C:=fun w'=>∃ p:World,w'=gr w p) hm hB ⟨_,A1k (Ai w none)⟩ (by simpa using h)
theorem Dc {P:Program} {f:FuncId} {args:Array Value} {w p:World} {v:Value}
  (h:Calls P f args (gr w p) fun e w'=>e=.returned v∧(gr w p).grownBy w' none):Calls P f args (gr w p) fun e w''=>e=.returned v∧∃ q:World,w''=gr w q :=
 h.mono fun _ w' ⟨he,hg⟩=>⟨he,w',A1k (Ae (Bc w p) hg)⟩
end
section
open Go.RowKit
open Rat
theorem Gm {n:Int} {l:List CellP} {k:Nat} (hk:k<l.length) (h:¬ Iz n l k):decide (Dh n l)=false:=by
 rw [decide_eq_false_iff_not];exact fun hh=>h (hh k hk)
theorem We {n:Int} {l:List CellP} (h:∀ t,t<l.length→Iz n l t):decide (Dh n l)=true:=by
 rw [decide_eq_true_iff];exact h
theorem Wd {n:Int} {l:List CellP} {k:Nat} {p p2:CellP} (h:l.getD k Br=p) (h2:l.getD (k-1) Br=p2) :
  Iz n l k↔(0≤p.col∧p.col<n∧(0<k→p2.col<p.col)∧IntOK p.neg p.limbs∧p.limbs≠[]):=by unfold Iz;rw [h,h2]
set_option maxRecDepth 100000 in
theorem Fn (w:World) (v:Value) (l:List CellP) (n:Int) (hl:CellRow w v l) :
    Calls Tryz.prog 80 #[v,.int .i64 n] w fun e w'=>e=.returned (.bool (decide (Dh n l)))∧w.grownBy w' none:=by
  obtain ⟨A,c,rfl,h1,h2⟩:=hl.ctor
  have HL:=Ac hl
  clear hl
  obtain ⟨D,hD⟩:∃ D,decide (Dh n l)=D:=⟨_,rfl⟩
  rw [hD]
  have HD:=Ac hD
  clear hD
  go_enter Tryz.func80,Tryz.ntmps80
  go_wp2_with fail
  go_loopw [9] (fun i wr=>∃ k:Nat,k≤l.length∧i=.int .i64 k∧w.grownBy wr none∧Hid (∀ t,t<k→Iz n l t)) (fun i _=>(l.length-intOf i).toNat)
  case atStart=>exact ⟨0,by omega,rfl,Al _ _,Ac (fun t ht=>by omega)⟩
  case round =>
    obtain ⟨k,hk,rfl,hg,hb⟩:=hrel
    by_cases hlt:k<l.length
    · obtain ⟨b,o,A',n',c',rfl,hI,q0,q1,q2,hn⟩:=(HL.out.more hg).at hlt
      have hn2:=hn
      have hprev:0<k→wr.cell? ⟨b,o+(k-1)*3,none⟩=some (.int .i64 (l.getD (k-1) Br).col):=fun h0=>by
        obtain ⟨b',o',_,_,_,e,_,p0,_⟩:=(HL.out.more hg).at (i:=k-1) (by omega)
        injection e with e;injection e with e1 e2 _;subst e1 e2;exact p0
      have HO0:=fun p p2 h h2=>Wd (n:=n) (l:=l) (k:=k) (p:=p) (p2:=p2) h h2
      generalize hp:l.getD k Br=p at *
      generalize hp2:l.getD (k-1) Br=p2 at *
      have HO:=HO0 _ _ rfl rfl
      obtain ⟨col,neg,limbs⟩:=p
      obtain ⟨col2,neg2,limbs2⟩:=p2
      simp only at q0 q1 q2 hn hn2 hprev HO
      have HO:=Ac HO
      clear hp hp2 HO0
      obtain ⟨A2,c2,hlen,hl1,hl2⟩:=hn.form
      injection hlen with e1 e2 e3
      subst e1 e2 e3
      have ga:=Af wr (.cells #[.int .i64 col,.bool neg,.slice A' limbs.length c'] 55) none
      have hB:=Blk.new wr #[.int .i64 col,.bool neg,.slice A' limbs.length c'] 55
      have F0:=B8 (v:=.int .i64 col) (hB.cell 0)
      have F1:=B8 (v:=.bool neg) (hB.cell 1)
      have F2:=B8 (v:=.slice A' limbs.length c') (hB.cell 2)
      have hC:=fun p=>Db (gr (wr.alloc (.cells #[.int .i64 col,.bool neg,.slice A' limbs.length c'] 55)) p) neg _ limbs (hn.more (Ae ga (Bc _ p)))
      have HC:=Ac hC
      clear hC hn hn2
      by_cases hc1:col<0
      · skip
        go_wp2_with fail
        generalize wr.alloc (.cells #[.int .i64 col,.bool neg,.slice A' limbs.length c'] 55)=W at *
        generalize wr.heap.size=s at *
        (refine Bq (by kernel_rfl) (by kernel_rfl) ?_
         repeat (go_big_quiet_step (fail))
         refine wpQuiet_nil ?_
         intro _ hw'
         obtain ⟨pq,hw''⟩:=hw'
         subst hw'')
        have hgq:=Bc W pq
        generalize gr W pq=wq at *
        go_wp2
        go_ret
        exact ⟨Ao (by rw [←HD.out];exact (Gm hlt (fun h=>by obtain ⟨a1,a2,a3,a4,a5⟩:=HO.out.1 h;omega)).symm),Ae hg (Ae ga hgq)⟩
      have g1:decide (col<0)=false:=by rw [decide_eq_false_iff_not];exact hc1
      by_cases hc2:n≤col
      · skip
        go_wp2_with fail
        generalize wr.alloc (.cells #[.int .i64 col,.bool neg,.slice A' limbs.length c'] 55)=W at *
        generalize wr.heap.size=s at *
        (refine Bq (by kernel_rfl) (by kernel_rfl) ?_
         repeat (go_big_quiet_step (fail))
         refine wpQuiet_nil ?_
         intro _ hw'
         obtain ⟨pq,hw''⟩:=hw'
         subst hw'')
        have hgq:=Bc W pq
        generalize gr W pq=wq at *
        go_wp2
        go_ret
        exact ⟨Ao (by rw [←HD.out];exact (Gm hlt (fun h=>by obtain ⟨a1,a2,a3,a4,a5⟩:=HO.out.1 h;omega)).symm),Ae hg (Ae ga hgq)⟩
      have g2:decide (n≤col)=false:=by rw [decide_eq_false_iff_not];exact hc2
      have e0:(0:Int)≤(k:Int):=by omega
      have e1:(k:Int)<(l.length:Int):=by omega
      by_cases h0:0<k
      · have d1:decide ((0:Int)<(k:Int))=true:=by rw [decide_eq_true_iff];omega
        have d2:decide (0<k)=true:=by rw [decide_eq_true_iff];omega
        have qp:=Aj ga (hprev h0) (by simp)
        have F3:=B8 qp
        have e2:(0:Int)≤(k:Int)-1:=by omega
        have e3:(k:Int)-1<(l.length:Int):=by omega
        have e4:((k:Int)-1).toNat=k-1:=by omega
        have e5:IntKind.i64.wrap ((k:Int)-1)=(k:Int)-1:=IntWalk.i64_in _ (by omega)
        by_cases hc3:col≤col2
        · skip
          go_wp2_with fail
          generalize wr.alloc (.cells #[.int .i64 col,.bool neg,.slice A' limbs.length c'] 55)=W at *
          generalize wr.heap.size=s at *
          (refine Bq (by kernel_rfl) (by kernel_rfl) ?_
           repeat (go_big_quiet_step (fail))
           refine wpQuiet_nil ?_
           intro _ hw'
           obtain ⟨pq,hw''⟩:=hw'
           subst hw'')
          have hgq:=Bc W pq
          generalize gr W pq=wq at *
          go_wp2
          go_ret
          exact ⟨Ao (by rw [←HD.out];exact (Gm hlt (fun h=>by obtain ⟨a1,a2,a3,a4,a5⟩:=HO.out.1 h;omega)).symm),Ae hg (Ae ga hgq)⟩
        have g3:decide (col≤col2)=false:=by rw [decide_eq_false_iff_not];exact hc3
        by_cases hok:IntOK neg limbs
        · have he:(if IntOK neg limbs then (0:Int) else 10)=0:=if_pos hok
          rw [he] at HC
          by_cases hem:limbs.length=0
          · have t:((limbs.length:Int)==0)=true:=by rw [beq_iff_eq];omega
            have HNIL:=Ac (List.eq_nil_of_length_eq_zero hem)
            clear hem
            go_wp2_with fail
            generalize wr.alloc (.cells #[.int .i64 col,.bool neg,.slice A' limbs.length c'] 55)=W at *
            generalize wr.heap.size=s at *
            (refine Bq (by kernel_rfl) (by kernel_rfl) ?_
             repeat (go_big_quiet_step ((go_at_call 79;exact Dc (HC.out _))))
             refine wpQuiet_nil ?_
             intro _ hw'
             obtain ⟨pq,hw''⟩:=hw'
             subst hw'')
            have hgq:=Bc W pq
            generalize gr W pq=wq at *
            go_wp2
            go_ret
            exact ⟨Ao (by rw [←HD.out];exact (Gm hlt (fun h=>by obtain ⟨a1,a2,a3,a4,a5⟩:=HO.out.1 h;exact a5 HNIL.out)).symm),Ae hg (Ae ga hgq)⟩
          · have t:((limbs.length:Int)==0)=false:=by rw [beq_eq_false_iff_ne];omega
            have hne:limbs≠[]:=fun e=>hem (by rw [e];rfl)
            have HNE:=Ac hne
            have HOK:=Ac hok
            clear hem hne hok he
            go_wp2_with fail
            generalize wr.alloc (.cells #[.int .i64 col,.bool neg,.slice A' limbs.length c'] 55)=W at *
            generalize wr.heap.size=s at *
            (refine Bq (by kernel_rfl) (by kernel_rfl) ?_
             repeat (go_big_quiet_step ((go_at_call 79;exact Dc (HC.out _))))
             refine wpQuiet_nil ?_
             intro _ hw'
             obtain ⟨pq,hw''⟩:=hw'
             subst hw'')
            have hgq:=Bc W pq
            generalize gr W pq=wq at *
            go_wp2
            exact ⟨⟨k+1,by omega,by go_num,Ae hg (Ae ga hgq),Ac (fun t ht=>by
              by_cases htk:t=k
              · subst htk;exact HO.out.2 ⟨by omega,by omega,fun h=>by omega,HOK.out,HNE.out⟩
              · exact hb.out t (by omega))⟩,by simp [intOf];omega⟩
        · have he:(if IntOK neg limbs then (0:Int) else 10)=10:=if_neg hok
          rw [he] at HC
          have HOK:=Ac hok
          clear hok he
          go_wp2_with fail
          generalize wr.alloc (.cells #[.int .i64 col,.bool neg,.slice A' limbs.length c'] 55)=W at *
          generalize wr.heap.size=s at *
          (refine Bq (by kernel_rfl) (by kernel_rfl) ?_
           repeat (go_big_quiet_step ((go_at_call 79;exact Dc (HC.out _))))
           refine wpQuiet_nil ?_
           intro _ hw'
           obtain ⟨pq,hw''⟩:=hw'
           subst hw'')
          have hgq:=Bc W pq
          generalize gr W pq=wq at *
          go_wp2
          go_ret
          exact ⟨Ao (by rw [←HD.out];exact (Gm hlt (fun h=>by obtain ⟨a1,a2,a3,a4,a5⟩:=HO.out.1 h;exact HOK.out a4)).symm),Ae hg (Ae ga hgq)⟩
      · have d1:decide ((0:Int)<(k:Int))=false:=by rw [decide_eq_false_iff_not];omega
        have d2:decide (0<k)=false:=by rw [decide_eq_false_iff_not];omega
        by_cases hok:IntOK neg limbs
        · have he:(if IntOK neg limbs then (0:Int) else 10)=0:=if_pos hok
          rw [he] at HC
          by_cases hem:limbs.length=0
          · have t:((limbs.length:Int)==0)=true:=by rw [beq_iff_eq];omega
            have HNIL:=Ac (List.eq_nil_of_length_eq_zero hem)
            clear hem
            go_wp2_with fail
            generalize wr.alloc (.cells #[.int .i64 col,.bool neg,.slice A' limbs.length c'] 55)=W at *
            generalize wr.heap.size=s at *
            (refine Bq (by kernel_rfl) (by kernel_rfl) ?_
             repeat (go_big_quiet_step ((go_at_call 79;exact Dc (HC.out _))))
             refine wpQuiet_nil ?_
             intro _ hw'
             obtain ⟨pq,hw''⟩:=hw'
             subst hw'')
            have hgq:=Bc W pq
            generalize gr W pq=wq at *
            go_wp2
            go_ret
            exact ⟨Ao (by rw [←HD.out];exact (Gm hlt (fun h=>by obtain ⟨a1,a2,a3,a4,a5⟩:=HO.out.1 h;exact a5 HNIL.out)).symm),Ae hg (Ae ga hgq)⟩
          · have t:((limbs.length:Int)==0)=false:=by rw [beq_eq_false_iff_ne];omega
            have hne:limbs≠[]:=fun e=>hem (by rw [e];rfl)
            have HNE:=Ac hne
            have HOK:=Ac hok
            clear hem hne hok he
            go_wp2_with fail
            generalize wr.alloc (.cells #[.int .i64 col,.bool neg,.slice A' limbs.length c'] 55)=W at *
            generalize wr.heap.size=s at *
            (refine Bq (by kernel_rfl) (by kernel_rfl) ?_
             repeat (go_big_quiet_step ((go_at_call 79;exact Dc (HC.out _))))
             refine wpQuiet_nil ?_
             intro _ hw'
             obtain ⟨pq,hw''⟩:=hw'
             subst hw'')
            have hgq:=Bc W pq
            generalize gr W pq=wq at *
            go_wp2
            exact ⟨⟨k+1,by omega,by go_num,Ae hg (Ae ga hgq),Ac (fun t ht=>by
              by_cases htk:t=k
              · subst htk;exact HO.out.2 ⟨by omega,by omega,fun h=>by omega,HOK.out,HNE.out⟩
              · exact hb.out t (by omega))⟩,by simp [intOf];omega⟩
        · have he:(if IntOK neg limbs then (0:Int) else 10)=10:=if_neg hok
          rw [he] at HC
          have HOK:=Ac hok
          clear hok he
          go_wp2_with fail
          generalize wr.alloc (.cells #[.int .i64 col,.bool neg,.slice A' limbs.length c'] 55)=W at *
          generalize wr.heap.size=s at *
          (refine Bq (by kernel_rfl) (by kernel_rfl) ?_
           repeat (go_big_quiet_step ((go_at_call 79;exact Dc (HC.out _))))
           refine wpQuiet_nil ?_
           intro _ hw'
           obtain ⟨pq,hw''⟩:=hw'
           subst hw'')
          have hgq:=Bc W pq
          generalize gr W pq=wq at *
          go_wp2
          go_ret
          exact ⟨Ao (by rw [←HD.out];exact (Gm hlt (fun h=>by obtain ⟨a1,a2,a3,a4,a5⟩:=HO.out.1 h;exact HOK.out a4)).symm),Ae hg (Ae ga hgq)⟩
    · obtain rfl:k=l.length:=by omega
      go_wp2_with fail
      go_ret
      exact ⟨Ao (by rw [←HD.out];exact (We hb.out).symm),hg⟩
end
end Go.Proofs.YtckbiimikeiejaaGreatDoor
