/- ModI. -/
import Derived.Test.YtmfmfpmkgmkgiaaGreatDoorMar
import Derived.Test.YtmfmfpmkgmkgiaaGreatDoorMbb
import Derived.Test.YtmfmfpmkgmkgiaaGreatDoorMbd
set_option linter.unusedVariables false
set_option linter.unusedSimpArgs false
set_option maxHeartbeats 40000000
namespace Go.Proofs.YtmfmfpmkgmkgiaaGreatDoor
section
open Go.RowKit
open Rat
theorem L16.num {m e:Int} (h:NumOK m e):L16 (numQ m e) 8:=by
 have hb:=h.bounds
 have hm:(d16 m).length≤4:=by unfold d16;refine (Bz 65536 (by omega) _ _).2 ?_;omega
 have hp:=Lt (j:=e.natAbs) (by omega)
 unfold numQ
 split
 ·exact L16.divInt (Int.pow_ne_zero (by omega)) (by omega) (by omega)
 ·exact L16.divInt (by omega) (by have:=Hl ((10:Int) ^ e.natAbs) m;omega) (by decide +kernel)
set_option maxRecDepth 100000 in
theorem Jt (w:World) (nm:ByteArray) (kind:Int) (vg vv:Value) (gs vs:List (Int × Int)) (hnm:nm.size≤4611686018427387904) (hk1:0≤kind) (hk2:kind≤255) (hg:NumRow w vg gs) (hv:NumRow w vv vs) (hl2:vs.length≤4611686018427387904) :
    Calls Tryz.prog 136 #[.agg #[.string nm,.int .u8 kind,vg,vv]] w fun e w'=>e=.returned (.bool (Bk nm.data.toList kind gs vs))∧w.grownBy w' none:=by
  obtain ⟨D,hD⟩:∃ D,Bk nm.data.toList kind gs vs=D:=⟨_,rfl⟩
  rw [hD]
  have HD:=Ac hD
  clear hD
  have HGI:=Ac hg.i64
  have HVI:=Ac hv.i64
  have HG:=Ac hg
  have HV:=Ac hv
  obtain ⟨A1,c1,rfl,m1,m1'⟩:=hg.ctor
  obtain ⟨A2,c2,rfl,m2,m2'⟩:=hv.ctor
  have HGW:=Ac (Af w (.cells #[.string nm,.int .u8 kind,.slice A1 gs.length c1,.slice A2 vs.length c2] 87) none)
  have hB:=Blk.new w #[.string nm,.int .u8 kind,.slice A1 gs.length c1,.slice A2 vs.length c2] 87
  obtain ⟨x0,x1,x2,x3,_⟩:=hB.four
  clear hB hg hv
  go_enter Tryz.func136,Tryz.ntmps136
  go_wp2_with fail
  generalize w.alloc (.cells #[.string nm,.int .u8 kind,.slice A1 gs.length c1,.slice A2 vs.length c2] 87)=wa at *
  generalize w.heap.size=s at *
  refine (Mb wa nm hnm).mono ?_
  rintro e w1 ⟨rfl,hw1⟩
  obtain ⟨N,hN⟩:∃ N,D9 nm.data.toList=N:=⟨_,rfl⟩
  rw [hN]
  have HGW:=Ac (Ae HGW.out hw1)
  have x1:=Aj hw1 x1 (by simp)
  have x2:=Aj hw1 x2 (by simp)
  have x3:=Aj hw1 x3 (by simp)
  clear hw1 x0
  cases N with
  | false =>
    have HF:Hid (D=false):=Ac (by rw [←HD.out];simp [Bk,hN])
    clear hN
    go_wp2_with fail
    go_ret
    exact ⟨by rw [HF.out];rfl,HGW.out⟩
  | true =>
    have HN:=Ac hN
    clear hN
    go_wp2_with fail
    go_loopw [3] (fun i wr=>∃ k:Nat,k≤gs.length∧i=.int .i64 k∧w1.grownBy wr none∧Hid (∀ t,t<k→Bu (gs.getD t (0,0))=true)) (fun i _=>(gs.length-intOf i).toNat)
    case atStart=>exact ⟨0,by omega,rfl,Al _ _,Ac (fun t ht=>by omega)⟩
    case round =>
      obtain ⟨k,hk,rfl,hgr,hb⟩:=hrel
      have y1:=Aj hgr x1 (by simp)
      have y2:=Aj hgr x2 (by simp)
      have y3:=Aj hgr x3 (by simp)
      by_cases hlt:k<gs.length
      · obtain ⟨b,o,rfl,q0,q1⟩:=(HG.out.more (Ae HGW.out hgr)).at hlt
        obtain ⟨⟨u1,u2⟩,u3,u4⟩:=HGI.out k
        generalize hp:gs.getD k (0,0)=p at *
        have HP:=Ac hp
        clear hp
        obtain ⟨m,e⟩:=p
        simp only at q0 q1 u1 u2 u3 u4
        have HC:=Ac (Df wr m e u1 u2 u3 u4)
        obtain ⟨X,hX⟩:∃ X,decide (NumOK m e)=X:=⟨_,rfl⟩
        rw [hX] at HC
        have HX:=Ac hX
        have HGR:=Ac hgr
        clear hX hgr
        go_wp2_with fail
        refine HC.out.mono ?_
        rintro e' w3 ⟨rfl,hg3⟩
        cases X with
        | false =>
          have HF:Hid (D=false):=Ac (by rw [←HD.out];exact Nx (F8 hlt (by rw [HP.out];exact HX.out)))
          go_wp2_with fail
          go_ret
          exact ⟨by rw [HF.out];rfl,Ae HGW.out (Ae HGR.out hg3)⟩
        | true =>
          go_wp2_with fail
          exact ⟨⟨k+1,by omega,Bl (by omega),Ae HGR.out hg3,Ac (fun t ht=>by
            by_cases htk:t=k
            · subst htk;rw [HP.out];exact HX.out
            · exact hb.out t (by omega))⟩,by simp [intOf];omega⟩
      · obtain rfl:k=gs.length:=by omega
        have HA:Hid (gs.all Bu=true):=Ac (Ez hb.out)
        have HG1:=Ac (Ae HGW.out hgr)
        clear hb hgr x1 x2 x3
        obtain ⟨wo,rfl⟩:∃ wo:World,wo=wr:=⟨_,rfl⟩
        go_wp2_with fail
        go_loopw [4] (fun i wr=>∃ k:Nat,k≤vs.length∧i=.int .i64 k∧wo.grownBy wr none∧Hid ((∀ t,t<k→Bu (vs.getD t (0,0))=true)∧(kind=100→∀ t,t<k→1≤t→pQ (vs.getD (t-1) (0,0))<pQ (vs.getD t (0,0))))) (fun i _=>(vs.length-intOf i).toNat)
        case atStart=>exact ⟨0,by omega,rfl,Al _ _,Ac ⟨fun t ht=>by omega,fun _ t ht=>by omega⟩⟩
        case round =>
          obtain ⟨k,hk,rfl,hgr,hb⟩:=hrel
          have z1:=Aj hgr y1 (by simp)
          have z2:=Aj hgr y2 (by simp)
          have z3:=Aj hgr y3 (by simp)
          by_cases hlt:k<vs.length
          · obtain ⟨b,o,rfl,q0,q1⟩:=(HV.out.more (Ae HG1.out hgr)).at hlt
            obtain ⟨⟨u1,u2⟩,u3,u4⟩:=HVI.out k
            generalize hp:vs.getD k (0,0)=p at *
            have HP:=Ac hp
            clear hp
            obtain ⟨m,e⟩:=p
            simp only at q0 q1 u1 u2 u3 u4
            have HC:=Ac (Df wr m e u1 u2 u3 u4)
            obtain ⟨X,hX⟩:∃ X,decide (NumOK m e)=X:=⟨_,rfl⟩
            rw [hX] at HC
            have HX:=Ac hX
            have HGR:=Ac hgr
            clear hX hgr
            go_wp2_with fail
            refine HC.out.mono ?_
            rintro e' w3 ⟨rfl,hg3⟩
            cases X with
            | false =>
              have HF:Hid (D=false):=Ac (by rw [←HD.out];exact Ny (F8 hlt (by rw [HP.out];exact HX.out)))
              go_wp2_with fail
              go_ret
              exact ⟨by rw [HF.out];rfl,Ae HG1.out (Ae HGR.out hg3)⟩
            | true =>
              have HB:Hid (∀ t,t<k+1→Bu (vs.getD t (0,0))=true):=Ac (fun t ht=>by
                by_cases htk:t=k
                · subst htk;rw [HP.out];exact HX.out
                · exact hb.out.1 t (by omega))
              have HG3:=Ac (Ae HGR.out hg3)
              have z1:=Aj hg3 z1 (by simp)
              have z3:=Aj hg3 z3 (by simp)
              have q0:=Aj hg3 q0 (by simp)
              have q1:=Aj hg3 q1 (by simp)
              clear hg3 y1 y2 y3
              by_cases h100:kind=100
              · subst h100
                by_cases hk0:k=0
                · as_aux_lemma =>
                    subst hk0
                    have t0:decide ((0:Int)<((0:Nat):Int))=false:=by simp
                    go_wp2_with fail
                    go_quiet (fail)
                    go_wp2_with fail
                    exact ⟨⟨1,by omega,Bl (by omega),Ae HG3.out (Az _ _ _),Ac ⟨HB.out,fun _ t ht=>by omega⟩⟩,by simp [intOf];omega⟩
                · as_aux_lemma =>
                    obtain ⟨j,rfl⟩:∃ j,k=j+1:=⟨k-1,by omega⟩
                    obtain ⟨b',o',e',q2,q3⟩:=(HV.out.more (Ae HG1.out HG3.out)).at (i:=j) (by omega)
                    injection e' with e';injection e' with e1 e2 _;subst e1 e2
                    generalize hp2:vs.getD j (0,0)=p2 at *
                    have HP2:=Ac hp2
                    clear hp2
                    obtain ⟨mm,ee⟩:=p2
                    simp only at q2 q3
                    have HX2:Hid (NumOK mm ee):=Ac (by have:=HB.out j (by omega);rw [HP2.out] at this;exact of_decide_eq_true this)
                    have HX1:Hid (NumOK m e):=Ac (of_decide_eq_true HX.out)
                    have t0:decide (0<(j:Int)+1)=true:=by rw [decide_eq_true_iff];omega
                    have e1':IntKind.i64.wrap ((j:Int)+1-1)=(j:Int):=by rw [show (j:Int)+1-1=j by omega];exact IntWalk.i64_in _ (by omega)
                    have e1'':IntKind.i64.wrap (j:Int)=(j:Int):=IntWalk.i64_in _ (by omega)
                    have e6:IntKind.i64.wrap ((j:Int)+1)=(j:Int)+1:=IntWalk.i64_in _ (by omega)
                    have e7:(0:Int)≤(j:Int):=by omega
                    have e2':((j:Int)+1).toNat=j+1:=by omega
                    have e3:(j:Int)+1<(vs.length:Int):=by omega
                    have e4:(j:Int)<(vs.length:Int):=by omega
                    have e5:(0:Int)≤(j:Int)+1:=by omega
                    have hR:¬ 0≤cmpQ (numQ mm ee) (numQ m e)↔pQ (vs.getD j (0,0))<pQ (vs.getD (j+1) (0,0)):=by
                      rw [HP.out,HP2.out]
                      unfold cmpQ pQ
                      by_cases hpq:numQ mm ee<numQ m e
                      · simp [hpq]
                      · by_cases heq:numQ mm ee=numQ m e<;>simp [hpq,heq]
                    have HR:=Ac hR
                    clear hR hk0 z2
                    obtain ⟨R,hRR⟩:∃ R,cmpQ (numQ mm ee) (numQ m e)=R:=⟨_,rfl⟩
                    have HRR:=Ac hRR
                    clear hRR
                    rw [HRR.out] at HR
                    have HK:=Ac (fun w' (h:w3.grownBy w' none)=>(⟨Aj h z1 (by simp),Aj h z3 (by simp),Aj h q0 (by simp),Aj h q1 (by simp),Aj h q2 (by simp),Aj h q3 (by simp)⟩:w'.cell? ⟨s,1,none⟩=some (.int .u8 100)∧w'.cell? ⟨s,3,none⟩=some (.slice (some ⟨b,o,none⟩) vs.length c2)∧w'.cell? ⟨b,o+(j+1)*2,none⟩=some (.int .i64 m)∧w'.cell? ⟨b,o+(j+1)*2+1,none⟩=some (.int .i64 e)∧w'.cell? ⟨b,o+j*2,none⟩=some (.int .i64 mm)∧w'.cell? ⟨b,o+j*2+1,none⟩=some (.int .i64 ee)))
                    go_wp2_with fail
                    go_region_held3 (fun w'=>w'.cell? ⟨s,1,none⟩=some (.int .u8 100)∧w'.cell? ⟨s,3,none⟩=some (.slice (some ⟨b,o,none⟩) vs.length c2)∧w'.cell? ⟨b,o+(j+1)*2,none⟩=some (.int .i64 m)∧w'.cell? ⟨b,o+(j+1)*2+1,none⟩=some (.int .i64 e)∧w'.cell? ⟨b,o+j*2,none⟩=some (.int .i64 mm)∧w'.cell? ⟨b,o+j*2+1,none⟩=some (.int .i64 ee)) ((refine HK.out _ ?_;(focus ((repeat (first | assumption | exact Al _ _ | exact Ai _ _ | exact Af _ _ _ | refine Ae ?_ (Af _ _ _) | refine Ae ?_ (Ai _ _) | refine Ae ?_ (by assumption)));done))))
                      (first
                      | (go_at_call_of 192 (Value.agg #[.int .i64 mm,.int .i64 ee]);refine (N7 _ mm ee HX2.out).mono ?_;rintro o5 w5 ⟨v5,rfl,hv5,hg5⟩)
                      | (go_at_call_of 192 (Value.agg #[.int .i64 m,.int .i64 e]);refine (N7 _ m e HX1.out).mono ?_;rintro o6 w6 ⟨v6,rfl,hv6,hg6⟩)
                      | (go_at_call 196;refine (Rg _ _ _ (numQ mm ee) (numQ m e) (hv5.more (by (focus ((repeat (first | assumption | exact Al _ _ | exact Ai _ _ | exact Af _ _ _ | refine Ae ?_ (Af _ _ _) | refine Ae ?_ (Ai _ _) | refine Ae ?_ (by assumption)));done)))) (hv6.more (by (focus ((repeat (first | assumption | exact Al _ _ | exact Ai _ _ | exact Af _ _ _ | refine Ae ?_ (Af _ _ _) | refine Ae ?_ (Ai _ _) | refine Ae ?_ (by assumption)));done)))) 8 (L16.num HX2.out) (L16.num HX1.out) (by omega)).mono ?_;rw [HRR.out];rintro o7 w7 ⟨rfl,hg7⟩))
                    all_goals
                      have HG7:=Ac (Ae HG3.out (show w3.grownBy w7 none by (focus ((repeat (first | assumption | exact Al _ _ | exact Ai _ _ | exact Af _ _ _ | refine Ae ?_ (Af _ _ _) | refine Ae ?_ (Ai _ _) | refine Ae ?_ (by assumption)));done))))
                      by_cases hR0:0≤R
                      · have HF:Hid (D=false):=Ac (by
                          have hno:¬ pQ (vs.getD j (0,0))<pQ (vs.getD (j+1) (0,0)):=fun h=>by have:=HR.out.2 h;omega
                          rw [←HD.out]
                          unfold Bk
                          rw [if_neg (by decide),if_pos rfl]
                          have:decide (∀ i,i<vs.length→1≤i→pQ (vs.getD (i-1) (0,0))<pQ (vs.getD i (0,0)))=false:=by
                            rw [decide_eq_false_iff_not]
                            intro h
                            exact hno (h (j+1) (by omega) (by omega))
                          rw [this];simp)
                        go_wp2_with fail
                        go_ret
                        exact ⟨by rw [HF.out];rfl,Ae HG1.out HG7.out⟩
                      · go_wp2_with fail
                        exact ⟨⟨j+1+1,by omega,Bl (by omega),HG7.out,Ac ⟨HB.out,fun _ t ht h1=>by
                          by_cases htk:t=j+1
                          · subst htk;exact HR.out.1 (by omega)
                          · exact hb.out.2 trivial t (by omega) h1⟩⟩,by simp [intOf];omega⟩
              · as_aux_lemma =>
                  have t0:(kind==100)=false:=by rw [beq_eq_false_iff_ne];exact h100
                  have HN100:=Ac h100
                  clear h100
                  go_wp2_with fail
                  go_quiet (fail)
                  go_wp2_with fail
                  exact ⟨⟨k+1,by omega,Bl (by omega),Ae HG3.out (Az _ _ _),Ac ⟨HB.out,fun h=>absurd h HN100.out⟩⟩,by simp [intOf];omega⟩
          · obtain rfl:k=vs.length:=by omega
            have HAV:Hid (vs.all Bu=true):=Ac (Ez hb.out.1)
            have HOR:=Ac hb.out.2
            have HG2:=Ac (Ae HG1.out hgr)
            have hM:D=(if kind=115 then decide (gs.length=2)&&decide (vs.length=1)
     else if kind=100 then decide (1≤gs.length)&&decide (gs.length≤4)&&decide (vs.length+1=gs.length)&&decide (∀ i,i<vs.length→1≤i→pQ (vs.getD (i-1) (0,0))<pQ (vs.getD i (0,0)))
     else false):=by rw [←HD.out];unfold Bk;rw [HN.out,HA.out,HAV.out];simp
            clear hb hgr y1 y2 y3
            by_cases h115:kind=115
            · as_aux_lemma =>
                rw [if_pos h115] at hM
                have HM:=Ac hM
                subst h115
                clear hM
                generalize gs.length=lg at *
                generalize vs.length=lv at *
                go_wp2_with fail
                all_goals
                  go_ret
                  exact ⟨Ao (by rw [HM.out,Bool.eq_iff_iff];simp;try omega),HG2.out⟩
            have t115:(kind==115)=false:=by rw [beq_eq_false_iff_ne];exact h115
            rw [if_neg h115] at hM
            by_cases h100:kind=100
            · as_aux_lemma =>
                rw [if_pos h100,decide_eq_true (HOR.out h100),Bool.and_true] at hM
                have HM:=Ac hM
                subst h100
                clear hM h115
                generalize gs.length=lg at *
                generalize vs.length=lv at *
                go_wp2_with fail
                all_goals
                  go_ret
                  exact ⟨Ao (by rw [HM.out,Bool.eq_iff_iff];simp;try omega),HG2.out⟩
            · as_aux_lemma =>
                rw [if_neg h100] at hM
                have HM:=Ac hM
                have t100:(kind==100)=false:=by rw [beq_eq_false_iff_ne];exact h100
                clear hM h115 h100
                go_wp2_with fail
                go_ret
                exact ⟨by rw [HM.out];rfl,HG2.out⟩
set_option maxRecDepth 100000 in
theorem Ot (w:World) (nm:ByteArray) (kind k:Int) (vg vv:Value) (gs vs:List (Int × Int)) (hnm:nm.size≤4611686018427387904) (hk1:0≤kind) (hk2:kind≤255) (hg:NumRow w vg gs) (hv:NumRow w vv vs) (hl:gs.length≤4611686018427387904) (hl2:vs.length≤4611686018427387904) :
  Calls Tryz.prog 78 #[.agg #[.string nm,.int .u8 kind,vg,vv],.int .i64 k] w fun e w'=>e=.returned (.int .i64 (if Bk nm.data.toList kind gs vs then (if 0≤k∧k<gs.length then 0 else 111) else 50))∧w.grownBy w' none:=by
 have HR:Hid (∃ R,(if Bk nm.data.toList kind gs vs then (if 0≤k∧k<gs.length then (0:Int) else 111) else 50)=R):=Ac ⟨_,rfl⟩
 obtain ⟨R,hR⟩:=HR.out
 rw [hR]
 have HR:=Ac hR
 clear hR
 obtain ⟨A1,c1,rfl,m1,m1'⟩:=id hg.ctor
 obtain ⟨A2,c2,rfl,m2,m2'⟩:=id hv.ctor
 have HGW:=Ac (Af w (.cells #[.string nm,.int .u8 kind,.slice A1 gs.length c1,.slice A2 vs.length c2] 87) none)
 have hB:=Blk.new w #[.string nm,.int .u8 kind,.slice A1 gs.length c1,.slice A2 vs.length c2] 87
 obtain ⟨x0,x1,x2,x3,_⟩:=hB.four
 have HC:=Ac (Jt (w.alloc (.cells #[.string nm,.int .u8 kind,.slice A1 gs.length c1,.slice A2 vs.length c2] 87)) nm kind _ _ gs vs hnm hk1 hk2 (hg.more HGW.out) (hv.more HGW.out) hl2)
 clear hB hg hv
 go_enter Tryz.func78,Tryz.ntmps78
 go_wp2_with fail
 generalize w.alloc (.cells #[.string nm,.int .u8 kind,.slice A1 gs.length c1,.slice A2 vs.length c2] 87)=wa at *
 generalize w.heap.size=s at *
 refine HC.out.mono ?_
 rintro e w1 ⟨rfl,hw1⟩
 have x2:=Aj hw1 x2 (by simp)
 generalize Bk nm.data.toList kind gs vs=X at *
 generalize gs.length=lg at *
 cases X with
 | false =>
  go_wp2_with fail
  go_ret
  exact ⟨by rw [←HR.out];rfl,Ae HGW.out hw1⟩
 | true =>
  have e1:IntKind.i64.wrap ((lg:Int)-1)=(lg:Int)-1:=IntWalk.i64_in _ (by omega)
  by_cases h1:k<0
  ·have HE:Hid (R=111):=Ac (by rw [←HR.out,if_pos rfl,if_neg (by omega)])
   go_wp2_with fail
   go_ret
   exact ⟨by rw [HE.out];rfl,Ae HGW.out hw1⟩
  ·by_cases h2:(lg:Int)-1<k
   ·have HE:Hid (R=111):=Ac (by rw [←HR.out,if_pos rfl,if_neg (by omega)])
    go_wp2_with fail
    go_ret
    exact ⟨by rw [HE.out];rfl,Ae HGW.out hw1⟩
   ·have HE:Hid (R=0):=Ac (by rw [←HR.out,if_pos rfl,if_pos (by omega)])
    go_wp2_with fail
    go_ret
    exact ⟨by rw [HE.out];rfl,Ae HGW.out hw1⟩
end
end Go.Proofs.YtmfmfpmkgmkgiaaGreatDoor
