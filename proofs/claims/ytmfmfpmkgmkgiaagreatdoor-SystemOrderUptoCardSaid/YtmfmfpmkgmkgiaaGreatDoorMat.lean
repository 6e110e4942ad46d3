/- ModF ModG StL StM SegA SegB. -/
import Derived.Test.YtmfmfpmkgmkgiaaGreatDoorMas
import Derived.Deep.DeepCutAuto
import Derived.Test.YtmfmfpmkgmkgiaaGreatDoorMal
import Derived.Test.YtmfmfpmkgmkgiaaGreatDoorMah
set_option linter.unusedVariables false
set_option linter.unusedSimpArgs false
set_option maxHeartbeats 40000000
namespace Go.Proofs.YtmfmfpmkgmkgiaaGreatDoor
section
open Go.RowKit
open Rat
def Jz (gs vs:List (Int × Int)):Nat→Rat
 | 0=>0
 | k+1=>Jz gs vs k+(pQ (gs.getD k (0,0))-pQ (gs.getD (k+1) (0,0)))*(pQ (vs.getD k (0,0))*((1000000000:Int) /. 1))
theorem LimQ.sub {p q:Rat} {k:Nat} (hp:LimQ p k) (hq:LimQ q k):LimQ (p-q) (2*k+1):=by
 rw [Rat.sub_eq_add_neg];exact hp.add hq.neg
theorem Pj {p:Int × Int} (h:NumOK p.1 p.2):LimQ (pQ p*((1000000000:Int) /. 1)) 6:=(Ba h).mul (Zc.mono (by omega))
theorem Ih {gs vs:List (Int × Int)} (hg:∀ k,k<gs.length→NumOK (gs.getD k (0,0)).1 (gs.getD k (0,0)).2) (hv:∀ k,k<vs.length→NumOK (vs.getD k (0,0)).1 (vs.getD k (0,0)).2) :
  ∀ k,k<gs.length→k≤vs.length→k≤3→LimQ (Jz gs vs k) (16*2 ^ k-1)
 | 0,_,_,_=>LimQ.mono (show LimQ 0 1 from ⟨by decide,by decide⟩) (by decide)
 | k+1,h1,h2,h3=>by
  have h:=Ih hg hv k (by omega) (by omega) (by omega)
  have hd:LimQ (pQ (gs.getD k (0,0))-pQ (gs.getD (k+1) (0,0))) 7:=LimQ.sub (Ba (hg k (by omega))) (Ba (hg (k+1) h1))
  have hm:=LimQ.mul hd ((Pj (hv k (by omega))).mono (by omega:6≤7))
  have hp:1≤2 ^ k:=Nat.one_le_two_pow
  refine (LimQ.add h (hm.mono (by omega:2*7≤16*2 ^ k-1))).mono ?_
  rw [Nat.pow_succ]
  omega
theorem Jl (w:World) (b:Nat) (v0 v1 v2 v3:Value):w.grownBy ((((w.setCell ⟨b,0,none⟩ v0).setCell ⟨b,1,none⟩ v1).setCell ⟨b,2,none⟩ v2).setCell ⟨b,3,none⟩ v3) (some b) :=
 Ae (Ae (Ae (Au _ _ _ _) (Au _ _ _ _)) (Au _ _ _ _)) (Au _ _ _ _)
def Hm (kind:Int) (gs vs:List (Int × Int)) (k:Nat):Rat:=if kind=100 then Jz gs vs k else 0
end
section
open Go.RowKit
open Rat
theorem RatB.new' {w0:World} {n:Nat} (h:w0.heap.size=n) (T:TypeId):RatB (w0.alloc (.cells #[.bool false,.slice none 0 0,.bool false,.slice none 0 0] T)) n 0:=by subst h;exact RatB.new _ _
theorem NumRow.at {w:World} {A:Option Addr} {n c:Nat} {l:List (Int × Int)} (h:NumRow w (.slice A n c) l) {i:Nat} (hi:i<l.length) :
  ∃ b o,A=some ⟨b,o,none⟩∧w.cell? ⟨b,o+i*2,none⟩=some (.int .i64 (l.getD i (0,0)).1)∧w.cell? ⟨b,o+i*2+1,none⟩=some (.int .i64 (l.getD i (0,0)).2):=by
 obtain ⟨A0,c0,he,_,_,_,h5⟩:=h
 injection he with e1
 subst e1
 obtain ⟨b,o,rfl,hc⟩:=h5 (by omega)
 exact ⟨b,o,rfl,hc i hi⟩
theorem Mk {nm:List UInt8} {kind:Int} {gs vs:List (Int × Int)} (h:Bk nm kind gs vs=true) :
  D9 nm=true∧gs.all Bu=true∧vs.all Bu=true∧((kind=115∧gs.length=2∧vs.length=1)∨(kind=100∧1≤gs.length∧gs.length≤4∧vs.length+1=gs.length)):=by
 unfold Bk at h
 simp only [Bool.and_eq_true] at h
 obtain ⟨⟨⟨h1,h2⟩,h3⟩,h4⟩:=h
 refine ⟨h1,h2,h3,?_⟩
 by_cases hk:kind=115
 ·rw [if_pos hk] at h4
  simp only [Bool.and_eq_true,decide_eq_true_eq] at h4
  exact .inl ⟨hk,h4⟩
 ·rw [if_neg hk] at h4
  by_cases hk2:kind=100
  ·rw [if_pos hk2] at h4
   simp only [Bool.and_eq_true,decide_eq_true_eq] at h4
   exact .inr ⟨hk2,h4.1.1.1,h4.1.1.2,h4.1.2⟩
  ·rw [if_neg hk2] at h4
   cases h4
theorem N0 {W:World} {b:Bool} {v1 v2:Value} {q P:Rat} (hp:q=P) (hb:decide (q.num<0)=b) (h1:Nums W v1 (digs q.num)) (h2:Nums W v2 (digs (q.den:Int))):RatV W (.agg #[.bool b,v1,.bool false,v2]) P:=by
 subst hp hb
 exact ⟨_,_,rfl,h1,h2⟩
theorem set8 (w:World) (b c:Nat) (hbc:b≠c) (x0 x1 x2 x3 y0 y1 y2 y3:Value) {o0 o1 o2 o3 q0 q1 q2 q3:Value} (hb:Blk w b #[o0,o1,o2,o3]) (hc:Blk w c #[q0,q1,q2,q3]) :
  ∃ W,((((((((w.setCell ⟨b,0,none⟩ x0).setCell ⟨b,1,none⟩ x1).setCell ⟨b,2,none⟩ x2).setCell ⟨b,3,none⟩ x3).setCell ⟨c,0,none⟩ y0).setCell ⟨c,1,none⟩ y1).setCell ⟨c,2,none⟩ y2).setCell ⟨c,3,none⟩ y3)=W∧Blk W b #[x0,x1,x2,x3]∧Blk W c #[y0,y1,y2,y3]∧
   (∀ v xs,Nums w v xs→v.ownBlock≠some b→v.ownBlock≠some c→Nums W v xs)∧(∀ w1:World,w1.grownBy w none→w1.heap.size≤b→w1.heap.size≤c→w1.grownBy W none):=by
 have g1:=Jl w b x0 x1 x2 x3
 have h1:=(((hb.set 0 x0).set 1 x1).set 2 x2).set 3 x3
 have c1:=hc.other g1 (fun e=>hbc e.symm)
 generalize (((w.setCell ⟨b,0,none⟩ x0).setCell ⟨b,1,none⟩ x1).setCell ⟨b,2,none⟩ x2).setCell ⟨b,3,none⟩ x3=w2 at *
 have g2:=Jl w2 c y0 y1 y2 y3
 have h2:=(((c1.set 0 y0).set 1 y1).set 2 y2).set 3 y3
 have h3:=h1.other g2 hbc
 exact ⟨_,rfl,h3,h2,fun v xs hn n1 n2=>(hn.apart g1 n1).apart g2 n2,fun w1 hg l1 l2=>Aw (Aw hg g1 l1) g2 l2⟩
set_option maxRecDepth 100000 in
theorem Vf (w:World) (nm:ByteArray) (kind:Int) (vg vv:Value) (gs vs:List (Int × Int)) (k:Nat) (hg:NumRow w vg gs) (hv:NumRow w vv vs)
    (hok:Bk nm.data.toList kind gs vs=true) (hk:k<gs.length) :
    Calls Tryz.prog 162 #[.agg #[.string nm,.int .u8 kind,vg,vv],.int .i64 k] w fun e w'=>∃ v1 v2,e=.returned (.tuple #[v1,v2,.int .i64 0])∧RatV w' v1 (pQ (gs.getD k (0,0)))∧RatV w' v2 (Hm kind gs vs k)∧w.grownBy w' none:=by
  obtain ⟨P0,hP0,hP1⟩:∃ P,numQ (gs.getD k (0,0)).1 (gs.getD k (0,0)).2=P∧pQ (gs.getD k (0,0))=P:=⟨_,rfl,rfl⟩
  rw [hP1]
  have HP0:=Ac hP0
  clear hP0 hP1
  have hg':=hg
  have hv':=hv
  obtain ⟨A1,c1,rfl,a1,a2,_,a4⟩:=hg
  obtain ⟨A2,c2,rfl,b1,b2,_,_⟩:=hv
  obtain ⟨_,hag,hav,hkind⟩:=Mk hok
  have hE:segE (Bk nm.data.toList kind gs vs) k gs.length=0:=by unfold segE;rw [hok,if_pos rfl,if_neg (by omega)]
  have HE:=Ac hE
  have HAG:=Ac (fun j hj=>Jh hag j hj)
  have HAV:=Ac (fun j hj=>Jh hav j hj)
  have hk1:0≤kind:=by omega
  have hk2:kind≤255:=by omega
  have HKD:=Ac hkind
  clear hok hE hag hav hkind
  have ga:=Af w (.cells #[.string nm,.int .u8 kind,.slice A1 gs.length c1,.slice A2 vs.length c2] 87) none
  have hB:=Blk.new w #[.string nm,.int .u8 kind,.slice A1 gs.length c1,.slice A2 vs.length c2] 87
  have hZ1:=Blk.new (w.alloc (.cells #[.string nm,.int .u8 kind,.slice A1 gs.length c1,.slice A2 vs.length c2] 87)) #[.bool false,.slice none 0 0,.bool false,.slice none 0 0] 94
  have g1:=Af (w.alloc (.cells #[.string nm,.int .u8 kind,.slice A1 gs.length c1,.slice A2 vs.length c2] 87)) (.cells #[.bool false,.slice none 0 0,.bool false,.slice none 0 0] 94) none
  have hZ2:=Blk.new ((w.alloc (.cells #[.string nm,.int .u8 kind,.slice A1 gs.length c1,.slice A2 vs.length c2] 87)).alloc (.cells #[.bool false,.slice none 0 0,.bool false,.slice none 0 0] 94)) #[.bool false,.slice none 0 0,.bool false,.slice none 0 0] 94
  have g2:=Af ((w.alloc (.cells #[.string nm,.int .u8 kind,.slice A1 gs.length c1,.slice A2 vs.length c2] 87)).alloc (.cells #[.bool false,.slice none 0 0,.bool false,.slice none 0 0] 94)) (.cells #[.bool false,.slice none 0 0,.bool false,.slice none 0 0] 94) none
  rw [World.size_alloc] at hZ1 hZ2
  rw [World.size_alloc] at hZ2
  have hZ1':=hZ1.more g2
  have gw:=Ae ga (Ae g1 g2)
  have hB':=hB.more (Ae g1 g2)
  obtain ⟨m0,m1,m2,m3,_⟩:=hB'.four
  have hgm:=hg'.more gw
  have hvm:=hv'.more gw
  clear hZ1 hB ga g1 g2 hg' hv'
  go_enter Tryz.func162,Tryz.ntmps162
  go_wp2_with fail
  generalize ((w.alloc (.cells #[.string nm,.int .u8 kind,.slice A1 gs.length c1,.slice A2 vs.length c2] 87)).alloc (.cells #[.bool false,.slice none 0 0,.bool false,.slice none 0 0] 94)).alloc (.cells #[.bool false,.slice none 0 0,.bool false,.slice none 0 0] 94)=wa at *
  generalize hs:w.heap.size=s at *
  refine (S0 wa nm kind _ _ gs vs k hk1 hk2 hgm hvm).mono ?_
  rintro o w1 ⟨rfl,hg1⟩
  rw [HE.out]
  have B1:=hB'.more hg1
  have Z1:=hZ1'.more hg1
  have Z2:=hZ2.more hg1
  have hgm1:=hgm.more hg1
  have hvm1:=hvm.more hg1
  clear hB' hZ1' hZ2 hgm hvm m0 m1 m2 m3
  go_wp2
  have hcn:=RatB.new w1 178
  have gcn:=Af w1 (.cells #[.bool false,.slice none 0 0,.bool false,.slice none 0 0] 178) none
  generalize hcb:w1.heap.size=cb at *
  generalize w1.alloc (.cells #[.bool false,.slice none 0 0,.bool false,.slice none 0 0] 178)=wl at *
  go_loopw [9] (fun j wr=>∃ i:Nat,(kind=100∨i=0)∧i≤k∧j=.int .i64 (i:Int)∧RatB wr cb (Jz gs vs i)∧w1.grownBy wr none) (fun j _=>(k-intOf j).toNat)
  case atStart=>exact ⟨0,.inr rfl,by omega,rfl,hcn,gcn⟩
  case round =>
    obtain ⟨i,hki,hik,rfl,hc,hgr⟩:=hrel
    have hclt:=hc.lt
    obtain ⟨m0,m1,m2,m3,_⟩:=(B1.more hgr).four
    by_cases hrun:kind=100∧i<k
    · obtain ⟨rfl,hik2⟩:=hrun
      have hki:vs.length+1=gs.length∧gs.length≤4:=by have:=HKD.out;omega
      have okg1:=HAG.out i (by omega)
      have okg2:=HAG.out (i+1) (by omega)
      have okv:=HAV.out i (by omega)
      have hgr4:=hgm1.more hgr
      have hvr4:=hvm1.more hgr
      have hlc:=Ih HAG.out HAV.out i (by omega) (by omega) (by omega)
      have hpw:2 ^ i≤2 ^ 3:=Nat.pow_le_pow_right (by omega) (by omega)
      have hlk:=Pj okv
      have hsum:Hid (Jz gs vs (i+1)=Jz gs vs i+(pQ (gs.getD i (0,0))-pQ (gs.getD (i+1) (0,0)))*(pQ (vs.getD i (0,0))*((1000000000:Int) /. 1))):=Ac rfl
      obtain ⟨b,o,rfl,hcc⟩:=a4 (by omega)
      have hgr4':=hgr4
      obtain ⟨A',c',he,_,_,_,h4'⟩:=hgr4'
      obtain ⟨b',o',hb',hcc'⟩:=h4' (by omega)
      injection he with he1 he2 he3
      subst he1
      injection hb' with hb'
      injection hb' with hb1 hb2
      subst hb1 hb2
      obtain ⟨q0,q1⟩:=hcc' i (by omega)
      obtain ⟨q2,q3⟩:=hcc' (i+1) (by omega)
      clear hcc hcc' h4' he3
      have e1:(i:Int)+1<(gs.length:Int):=by omega
      have e2:(i:Int)<(gs.length:Int):=by omega
      have e3:((i:Int)+1).toNat=i+1:=by omega
      have e4:(0:Int)≤(i:Int)+1:=by omega
      have e5:IntKind.i64.wrap ((i:Int)+1)=(i:Int)+1:=IntWalk.i64_in _ (by omega)
      have ev:i<vs.length:=by omega
      have hl1:LimQ (pQ (gs.getD i (0,0))) 3:=Ba okg1
      have hl2:LimQ (pQ (gs.getD (i+1) (0,0))) 3:=Ba okg2
      have hld:LimQ (pQ (gs.getD i (0,0))-pQ (gs.getD (i+1) (0,0))) 7:=LimQ.sub hl1 hl2
      have hlm:=LimQ.mul hld (hlk.mono (by omega:6≤7))
      have hgrB:=Ac hgr4
      have hvrB:=Ac hvr4
      have hokv:=Ac okv
      have HLC:=Ac (hlc.mono (show 16*2 ^ i-1≤200 by omega))
      have HLD:=Ac (hld.mono (show 7≤200 by omega))
      have HLK:=Ac (hlk.mono (show 6≤200 by omega))
      have HLM:=Ac (hlm.mono (show 2*7≤200 by omega))
      generalize hp:gs.getD i (0,0)=p at *
      generalize hq:gs.getD (i+1) (0,0)=q at *
      obtain ⟨x1,y1⟩:=p
      obtain ⟨x2,y2⟩:=q
      simp only at q0 q1 q2 q3 okg1 okg2
      have OK1:=Ac okg1
      have OK2:=Ac okg2
      have HL1:=Ac hl1
      have HL2:=Ac hl2
      clear hp hq okg1 okg2 okv hgr4 hvr4 hlc hld hlk hlm hl1 hl2 hpw
      have K:∀ w',wr.grownBy w' none→w'.cell? ⟨s,2,none⟩=some (.slice (some ⟨b,o,none⟩) gs.length c1)∧w'.cell? ⟨b,o+i*2,none⟩=some (.int .i64 x1)∧w'.cell? ⟨b,o+i*2+1,none⟩=some (.int .i64 y1)∧w'.cell? ⟨b,o+(i+1)*2,none⟩=some (.int .i64 x2)∧w'.cell? ⟨b,o+(i+1)*2+1,none⟩=some (.int .i64 y2):=fun w' h=>⟨Aj h m2 (by simp),Aj h q0 (by simp),Aj h q1 (by simp),Aj h q2 (by simp),Aj h q3 (by simp)⟩
      have HK:=Ac K
      clear K
      go_upto_region 8 with (fail)
      go_cut [10] (fun d wx=>∃ db,d=.pointer (some ⟨db,0,none⟩)∧wr.heap.size≤db∧wr.grownBy wx none∧Hid (RatB wx db (pQ (x1,y1)-pQ (x2,y2))))
      case first =>
       as_aux_lemma =>
        go_region_held3 (fun w'=>w'.cell? ⟨s,2,none⟩=some (.slice (some ⟨b,o,none⟩) gs.length c1)∧w'.cell? ⟨b,o+i*2,none⟩=some (.int .i64 x1)∧w'.cell? ⟨b,o+i*2+1,none⟩=some (.int .i64 y1)∧w'.cell? ⟨b,o+(i+1)*2,none⟩=some (.int .i64 x2)∧w'.cell? ⟨b,o+(i+1)*2+1,none⟩=some (.int .i64 y2)) ((refine HK.out _ ?_;(focus ((repeat (first | assumption | exact Al _ _ | exact Ai _ _ | exact Af _ _ _ | refine Ae ?_ (Af _ _ _) | refine Ae ?_ (Ai _ _) | refine Ae ?_ (by assumption)));done))))
         (first
         | (go_at_call_of 208 (Value.agg #[.int .i64 x1,.int .i64 y1]);refine (Fd _ x1 y1 OK1.out).mono ?_;rintro o' w2 ⟨bb2,rfl,hi2,hb2,hg2⟩)
         | (go_at_call 208;refine (Fd _ x2 y2 OK2.out).mono ?_;rintro o' w3 ⟨bb3,rfl,hi3,hb3,hg3⟩)
         | (go_at_call 207;refine (U6 _ _ bb2 bb3 0 _ _ (by first | exact (RatB.new' (w0:=wr.drew) rfl _).more (by (focus ((repeat (first | assumption | exact Al _ _ | exact Ai _ _ | exact Af _ _ _ | refine Ae ?_ (Af _ _ _) | refine Ae ?_ (Ai _ _) | refine Ae ?_ (by assumption)));done))) | exact (RatB.new' (w0:=w2) rfl _).more (by (focus ((repeat (first | assumption | exact Al _ _ | exact Ai _ _ | exact Af _ _ _ | refine Ae ?_ (Af _ _ _) | refine Ae ?_ (Ai _ _) | refine Ae ?_ (by assumption)));done))) | exact (RatB.new' (w0:=w3) rfl _).more (by (focus ((repeat (first | assumption | exact Al _ _ | exact Ai _ _ | exact Af _ _ _ | refine Ae ?_ (Af _ _ _) | refine Ae ?_ (Ai _ _) | refine Ae ?_ (by assumption)));done)))) (hi2.more (by (focus ((repeat (first | assumption | exact Al _ _ | exact Ai _ _ | exact Af _ _ _ | refine Ae ?_ (Af _ _ _) | refine Ae ?_ (Ai _ _) | refine Ae ?_ (by assumption)));done)))) (hi3.more (by (focus ((repeat (first | assumption | exact Al _ _ | exact Ai _ _ | exact Af _ _ _ | refine Ae ?_ (Af _ _ _) | refine Ae ?_ (Ai _ _) | refine Ae ?_ (by assumption)));done)))) 3 (by omega) HL1.out HL2.out).mono ?_;rintro o' w4 ⟨rfl,hi4,hg4⟩;have g4:=Aw (show wr.grownBy _ none by (focus ((repeat (first | assumption | exact Al _ _ | exact Ai _ _ | exact Af _ _ _ | refine Ae ?_ (Af _ _ _) | refine Ae ?_ (Ai _ _) | refine Ae ?_ (by assumption)));done))) hg4 (by first | exact Nat.le_refl _ | exact (show wr.grownBy w2 none by (focus ((repeat (first | assumption | exact Al _ _ | exact Ai _ _ | exact Af _ _ _ | refine Ae ?_ (Af _ _ _) | refine Ae ?_ (Ai _ _) | refine Ae ?_ (by assumption)));done))).size | exact (show wr.grownBy w3 none by (focus ((repeat (first | assumption | exact Al _ _ | exact Ai _ _ | exact Af _ _ _ | refine Ae ?_ (Af _ _ _) | refine Ae ?_ (Ai _ _) | refine Ae ?_ (by assumption)));done))).size)))
        all_goals
          go_wp2_with fail
          go_meet
          exact ⟨_,rfl,by first | exact Nat.le_refl _ | exact (show wr.grownBy w2 none by (focus ((repeat (first | assumption | exact Al _ _ | exact Ai _ _ | exact Af _ _ _ | refine Ae ?_ (Af _ _ _) | refine Ae ?_ (Ai _ _) | refine Ae ?_ (by assumption)));done))).size | exact (show wr.grownBy w3 none by (focus ((repeat (first | assumption | exact Al _ _ | exact Ai _ _ | exact Af _ _ _ | refine Ae ?_ (Af _ _ _) | refine Ae ?_ (Ai _ _) | refine Ae ?_ (by assumption)));done))).size,g4,Ac hi4⟩
      case rest =>
       as_aux_lemma =>
        obtain ⟨db,rfl,hdb,hgd,hd⟩:=hcut
        obtain ⟨m0,m1,m2,m3,_⟩:=(B1.more (Ae hgr hgd)).four
        have HGR:=Ac hgr
        have HGD:=Ac hgd
        have HC:=Ac hc
        have hk5:=Uk wc nm 100 _ _ gs vs i (hgrB.out.more hgd) (hvrB.out.more hgd) ev hokv.out
        have HK5:=Ac hk5
        clear hk5 hgr hgd hc q0 q1 q2 q3
        go_wp2_with fail
        refine HK5.out.mono ?_
        rintro o1 w5 ⟨kb,rfl,hkb,hkbb,hg5⟩
        have HG5:=Ac hg5
        have HKB:=Ac hkb
        have HD5:=Ac (hd.out.more hg5)
        clear hg5 hkb hkbb HK5 hd
        clear m0 m1 m2 m3
        go_wp2_with fail
        refine (Gl w5 db db kb _ _ _ HD5.out HD5.out HKB.out 200 (by omega) HLD.out HLK.out).mono ?_
        rintro o2 w6 ⟨rfl,hm6,hg6⟩
        have HM6:=Ac hm6
        have hne:cb≠db:=by have:=HC.out.lt;omega
        have HC6:=Ac ((HC.out.more (Ae HGD.out HG5.out)).other hg6 HD5.out.plain hne)
        have HG6:=Ac (Aw (Ae HGD.out HG5.out) hg6 hdb)
        clear hm6 hg6 hne
        go_wp2_with fail
        refine (Gk w6 cb cb db _ _ _ HC6.out HC6.out HM6.out 200 (by omega) HLC.out HLM.out).mono ?_
        rintro o3 w7 ⟨rfl,hc7,hg7⟩
        have HC7:=Ac hc7
        have HG7:=Ac (Aw (Ae HGR.out HG6.out) hg7 (by omega))
        clear hc7 hg7
        go_wp2_with fail
        exact ⟨⟨i+1,by simp,by omega,by go_num,by rw [hsum.out];exact HC7.out,HG7.out⟩,by simp [intOf];omega⟩
    · skip
      have HV:Hid (Jz gs vs i=Hm kind gs vs k):=Ac (by
        unfold Hm
        by_cases h100:kind=100
        · rw [if_pos h100,show i=k by omega]
        · rw [if_neg h100]
          obtain rfl:i=0:=by rcases hki with h | h;exact absurd h h100;exact h
          rfl)
      obtain ⟨bG,oG,rfl,x0,x1⟩:=(hgm1.more hgr).at hk
      have okg:=HAG.out k hk
      have HLQ:Hid (LimQ (Jz gs vs i) 1099511627776):=Ac (by
        by_cases h100:kind=100
        · have:=HKD.out
          exact (Ih HAG.out HAV.out i (by omega) (by omega) (by omega)).mono (by have:2 ^ i≤2 ^ 3:=Nat.pow_le_pow_right (by omega) (by omega);omega)
        · obtain rfl:i=0:=by rcases hki with h | h;exact absurd h h100;exact h
          exact LimQ.mono (show LimQ 0 1 from ⟨by decide,by decide⟩) (by decide))
      generalize gs.getD k (0,0)=p at *
      obtain ⟨px,py⟩:=p
      have HP0:Hid (numQ px py=P0):=HP0
      simp only at x0 x1 okg
      have HOK:=Ac okg
      have HC:=Ac hc
      have HGR:=Ac hgr
      have e1:(k:Int)<(gs.length:Int):=by omega
      have tt:((i:Int)<(k:Int)∧(kind==100)=false)∨¬ (i:Int)<(k:Int):=by
        by_cases h:i<k
        · exact .inl ⟨by omega,by rw [beq_eq_false_iff_ne];omega⟩
        · exact .inr (by omega)
      clear hc okg hgr hrun hki hcn gcn
      rcases tt with ⟨t1,t2⟩ | t1
      · skip
        go_wp2_with fail
        refine (Fd wr px py HOK.out).mono ?_
        rintro o2 w2 ⟨vb,rfl,hvb,hvbb,hg2⟩
        have HVB:=Ac hvb
        have HG2:=Ac hg2
        clear hvb hvbb hg2
        go_wp2_with fail
        refine (E7 w2 vb _ HVB.out ((Ba HOK.out).mono (by omega))).mono ?_
        rintro o3 w3 ⟨u1,u2,rfl,hn1,hn2,hf1,hf2,hg3⟩
        obtain ⟨neg1,hng1⟩:∃ b,decide ((numQ px py).num<0)=b:=⟨_,rfl⟩
        rw [hng1]
        have HNG1:=Ac hng1
        clear hng1
        obtain ⟨U1,k1,d1,rfl⟩:=hn1.ctor
        obtain ⟨U2,k2,d2,rfl⟩:=hn2.ctor
        have HN1:=Ac hn1
        have HN2:=Ac hn2
        have HF1:=Ac (hf1.mono (Ae HGR.out HG2.out).size)
        have HF2:=Ac (hf2.mono (Ae HGR.out HG2.out).size)
        have HG3:=Ac (Ae HG2.out hg3)
        clear hn1 hn2 hf1 hf2 hg3
        go_wp2_with fail
        refine (E7 w3 cb _ (HC.out.more HG3.out) HLQ.out).mono ?_
        rintro o4 w4 ⟨u3,u4,rfl,hn3,hn4,hf3,hf4,hg4⟩
        obtain ⟨neg2,hng2⟩:∃ b,decide ((Jz gs vs i).num<0)=b:=⟨_,rfl⟩
        rw [hng2]
        have HNG2:=Ac hng2
        clear hng2
        obtain ⟨U3,k3,d3,rfl⟩:=hn3.ctor
        obtain ⟨U4,k4,d4,rfl⟩:=hn4.ctor
        have HN1:=Ac (HN1.out.more hg4)
        have HN2:=Ac (HN2.out.more hg4)
        have HN3:=Ac hn3
        have HN4:=Ac hn4
        have HF3:=Ac (hf3.mono (Ae HGR.out HG3.out).size)
        have HF4:=Ac (hf4.mono (Ae HGR.out HG3.out).size)
        have hg4':=Ae HGR.out (Ae HG3.out hg4)
        have HG4:=Ac hg4'
        obtain ⟨z0,z1,z2,z3,f0,f1,f2,f3⟩:=(Z1.more hg4').four
        obtain ⟨y0,y1,y2,y3,l0,l1,l2,l3⟩:=(Z2.more hg4').four
        clear hn3 hn4 hf3 hf4 hg4 hg4'
        have hz2:=Dp (Z2.cell 0)
        have hne:∀ {v:Value},From w1.heap.size v→v.ownBlock≠some (s+1)∧v.ownBlock≠some (s+1+1):=fun h=>⟨fun e=>by have:=h _ e;omega,fun e=>by have:=h _ e;omega⟩
        have HNE:=Ac (And.intro (hne HF1.out) (And.intro (hne HF2.out) (And.intro (hne HF3.out) (hne HF4.out))))
        have hS:=set8 w4 (s+1) (s+1+1) (by omega) (.bool neg1) (.slice U1 k1 d1) (.bool false) (.slice U2 k2 d2) (.bool neg2) (.slice U3 k3 d3) (.bool false) (.slice U4 k4 d4) (Z1.more HG4.out) (Z2.more HG4.out)
        have HSS:=Ac hS
        clear hne hz2 hS
        go_wp2
        try simp only [Exit.inBlock,Exit.then]
        obtain ⟨W,hW,B5,B6,hnum,hgrn⟩:=HSS.out
        rw [hW]
        obtain ⟨n1,n2,n3,n4⟩:=HNE.out
        clear hW z0 z1 z2 z3 y0 y1 y2 y3 f0 f1 f2 f3 l0 l1 l2 l3
        obtain ⟨z0,z1,z2,z3,_⟩:=B5.four
        obtain ⟨y0,y1,y2,y3,_⟩:=B6.four
        refine bodyPost_ret (v:=.tuple #[.agg #[.bool neg1,.slice U1 k1 d1,.bool false,.slice U2 k2 d2],.agg #[.bool neg2,.slice U3 k3 d3,.bool false,.slice U4 k4 d4],.int .i64 0]) (by simp [results,Tryz.results162,go_sem,z0,z1,z2,z3,y0,y1,y2,y3]) rfl ⟨_,_,rfl,?_,?_,?_⟩
        · have h:=hnum _ _ HN1.out n1.1 n1.2
          have h2:=hnum _ _ HN2.out n2.1 n2.2
          have h3:=N0 (W:=W) rfl HNG1.out h h2
          rw [HP0.out] at h3
          exact h3
        · exact N0 HV.out HNG2.out (hnum _ _ HN3.out n3.1 n3.2) (hnum _ _ HN4.out n4.1 n4.2)
        · exact hgrn _ (Ae gw (Ae hg1 HG4.out)) (by omega) (by omega)
      · skip
        go_wp2_with fail
        refine (Fd wr px py HOK.out).mono ?_
        rintro o2 w2 ⟨vb,rfl,hvb,hvbb,hg2⟩
        have HVB:=Ac hvb
        have HG2:=Ac hg2
        clear hvb hvbb hg2
        go_wp2_with fail
        refine (E7 w2 vb _ HVB.out ((Ba HOK.out).mono (by omega))).mono ?_
        rintro o3 w3 ⟨u1,u2,rfl,hn1,hn2,hf1,hf2,hg3⟩
        obtain ⟨neg1,hng1⟩:∃ b,decide ((numQ px py).num<0)=b:=⟨_,rfl⟩
        rw [hng1]
        have HNG1:=Ac hng1
        clear hng1
        obtain ⟨U1,k1,d1,rfl⟩:=hn1.ctor
        obtain ⟨U2,k2,d2,rfl⟩:=hn2.ctor
        have HN1:=Ac hn1
        have HN2:=Ac hn2
        have HF1:=Ac (hf1.mono (Ae HGR.out HG2.out).size)
        have HF2:=Ac (hf2.mono (Ae HGR.out HG2.out).size)
        have HG3:=Ac (Ae HG2.out hg3)
        clear hn1 hn2 hf1 hf2 hg3
        go_wp2_with fail
        refine (E7 w3 cb _ (HC.out.more HG3.out) HLQ.out).mono ?_
        rintro o4 w4 ⟨u3,u4,rfl,hn3,hn4,hf3,hf4,hg4⟩
        obtain ⟨neg2,hng2⟩:∃ b,decide ((Jz gs vs i).num<0)=b:=⟨_,rfl⟩
        rw [hng2]
        have HNG2:=Ac hng2
        clear hng2
        obtain ⟨U3,k3,d3,rfl⟩:=hn3.ctor
        obtain ⟨U4,k4,d4,rfl⟩:=hn4.ctor
        have HN1:=Ac (HN1.out.more hg4)
        have HN2:=Ac (HN2.out.more hg4)
        have HN3:=Ac hn3
        have HN4:=Ac hn4
        have HF3:=Ac (hf3.mono (Ae HGR.out HG3.out).size)
        have HF4:=Ac (hf4.mono (Ae HGR.out HG3.out).size)
        have hg4':=Ae HGR.out (Ae HG3.out hg4)
        have HG4:=Ac hg4'
        obtain ⟨z0,z1,z2,z3,f0,f1,f2,f3⟩:=(Z1.more hg4').four
        obtain ⟨y0,y1,y2,y3,l0,l1,l2,l3⟩:=(Z2.more hg4').four
        clear hn3 hn4 hf3 hf4 hg4 hg4'
        have hz2:=Dp (Z2.cell 0)
        have hne:∀ {v:Value},From w1.heap.size v→v.ownBlock≠some (s+1)∧v.ownBlock≠some (s+1+1):=fun h=>⟨fun e=>by have:=h _ e;omega,fun e=>by have:=h _ e;omega⟩
        have HNE:=Ac (And.intro (hne HF1.out) (And.intro (hne HF2.out) (And.intro (hne HF3.out) (hne HF4.out))))
        have hS:=set8 w4 (s+1) (s+1+1) (by omega) (.bool neg1) (.slice U1 k1 d1) (.bool false) (.slice U2 k2 d2) (.bool neg2) (.slice U3 k3 d3) (.bool false) (.slice U4 k4 d4) (Z1.more HG4.out) (Z2.more HG4.out)
        have HSS:=Ac hS
        clear hne hz2 hS
        go_wp2
        try simp only [Exit.inBlock,Exit.then]
        obtain ⟨W,hW,B5,B6,hnum,hgrn⟩:=HSS.out
        rw [hW]
        obtain ⟨n1,n2,n3,n4⟩:=HNE.out
        clear hW z0 z1 z2 z3 y0 y1 y2 y3 f0 f1 f2 f3 l0 l1 l2 l3
        obtain ⟨z0,z1,z2,z3,_⟩:=B5.four
        obtain ⟨y0,y1,y2,y3,_⟩:=B6.four
        refine bodyPost_ret (v:=.tuple #[.agg #[.bool neg1,.slice U1 k1 d1,.bool false,.slice U2 k2 d2],.agg #[.bool neg2,.slice U3 k3 d3,.bool false,.slice U4 k4 d4],.int .i64 0]) (by simp [results,Tryz.results162,go_sem,z0,z1,z2,z3,y0,y1,y2,y3]) rfl ⟨_,_,rfl,?_,?_,?_⟩
        · have h:=hnum _ _ HN1.out n1.1 n1.2
          have h2:=hnum _ _ HN2.out n2.1 n2.2
          have h3:=N0 (W:=W) rfl HNG1.out h h2
          rw [HP0.out] at h3
          exact h3
        · exact N0 HV.out HNG2.out (hnum _ _ HN3.out n3.1 n3.2) (hnum _ _ HN4.out n4.1 n4.2)
        · exact hgrn _ (Ae gw (Ae hg1 HG4.out)) (by omega) (by omega)
end
section
open Go.RowKit Go.Maps
open Rat
def Uy (q:Rat) (method:Int):Rat:=if method=2 then q*((2:Int) /. 1) else q
def D8 (cap:Bool) (a0 a1 j mode method:Int) (y:Rat):List StampP :=
 outL a0 a1 j++((if cap then [] else Bw a0 a1 j)++(if mode=1 then (if cap then put1 1 j j 1 else []) else
  if cap then put1 1 j j 1++(put1 1 j a0 (-y)++(put1 1 j a1 y++(put1 2 j a0 (-y)++(put1 2 j a1 y++(if method=2 then put1 2 j j (-1) else [])))))
  else put1 1 j j (-y)++(put1 2 j j (-y)++(if method=2 then put1 2 j a0 (-1)++put1 2 j a1 1 else []))))
def Cb (d:DevP) (br:List Int) (k mode method:Int) (step:Int × Int) (seg:Nat):List StampP :=
 let J:=br.getD k.toNat 0
 let X:=numQ d.val.1 d.val.2
 if d.kind=114 then C7 (d.at 0) (d.at 1) (d.at 0) (d.at 1) X⁻¹
 else if d.kind=103 then C7 (d.at 0) (d.at 1) (d.at 2) (d.at 3) X
 else if d.kind=118 then outL (d.at 0) (d.at 1) J++(Bw (d.at 0) (d.at 1) J++put1 3 J k 1)
 else if d.kind=105 then put1 3 (d.at 0) k (-1)++put1 3 (d.at 1) k 1
 else if d.kind=101 then outL (d.at 0) (d.at 1) J++(Bw (d.at 0) (d.at 1) J++Gv (d.at 2) (d.at 3) J X)
 else if d.kind=102 then put1 1 (d.at 0) (br.getD d.ref.toNat 0) X++put1 1 (d.at 1) (br.getD d.ref.toNat 0) (-X)
 else if d.kind=104 then outL (d.at 0) (d.at 1) J++(Bw (d.at 0) (d.at 1) J++put1 1 J (br.getD d.ref.toNat 0) (-X))
 else if d.kind=116 then outL (d.at 0) (d.at 1) J++(put1 1 (d.at 2) J (-X)++(put1 1 (d.at 3) J X++(Bw (d.at 0) (d.at 1) J++Gv (d.at 2) (d.at 3) J X)))
 else if d.kind=99∨d.kind=108 then D8 (decide (d.kind=99)) (d.at 0) (d.at 1) J mode method (Uy (X/numQ step.1 step.2) method)
 else C7 (d.at 0) (d.at 1) (d.at 0) (d.at 1) (pQ (d.mg.getD seg (0,0))) ++
  (if d.kind=100 then put1 4 (d.at 0) 0 (-(Hm d.mkind d.mg d.mv seg))++put1 4 (d.at 1) 0 (Hm d.mkind d.mg d.mv seg) else [])
def StG (n:Int) (K:Nat) (L:List StampP):Prop:=∀ x∈L,(0≤x.row∧x.row<n∧0≤x.col∧LimQ x.val K)∧((x.kind=1∧x.col<n)∨(x.kind=2∧x.col<n)∨(x.kind=3∧x.col<64)∨(x.kind=4∧x.col=0))
theorem StG.nil (n:Int) (K:Nat):StG n K []:=fun x hx=>by simp at hx
theorem StG.append {n:Int} {K:Nat} {L M:List StampP} (h:StG n K L) (k:StG n K M):StG n K (L++M):=fun x hx=>by
 rcases List.mem_append.1 hx with hx | hx
 ·exact h x hx
 ·exact k x hx
theorem Cd {n:Int} {K:Nat} {kind r c:Int} {q:Rat} (hr:r<n) (hc:(kind=1∧c<n)∨(kind=2∧c<n)∨(kind=3∧c<64)∨(kind=4∧c=0)) (hq:LimQ q K):StG n K (put1 kind r c q):=fun x hx=>by
 unfold put1 at hx
 split at hx
 ·simp at hx
 ·rename_i h
  rw [List.mem_singleton] at hx
  subst hx
  exact ⟨⟨by simp only;omega,hr,by simp only;omega,hq⟩,hc⟩
theorem Ka {n:Int} {K:Nat} {a0 a1 c dd:Int} {q:Rat} (h0:a0<n) (h1:a1<n) (hc:c<n) (hd:dd<n) (hq:LimQ q K):StG n K (C7 a0 a1 c dd q) :=
 (Cd h0 (.inl ⟨rfl,hc⟩) hq).append ((Cd h0 (.inl ⟨rfl,hd⟩) hq.neg).append ((Cd h1 (.inl ⟨rfl,hc⟩) hq.neg).append (Cd h1 (.inl ⟨rfl,hd⟩) hq)))
theorem J6 {K:Nat} (hK:1≤K):LimQ 1 K:=LimQ.mono (show LimQ 1 1 from ⟨by decide,by decide⟩) hK
theorem O5 {n:Int} {K:Nat} {a0 a1 j:Int} (h0:a0<n) (h1:a1<n) (hj:j<n) (hK:1≤K):StG n K (outL a0 a1 j) :=
 (Cd h0 (.inl ⟨rfl,hj⟩) (J6 hK)).append (Cd h1 (.inl ⟨rfl,hj⟩) (J6 hK).neg)
theorem Hs {n:Int} {K:Nat} {a0 a1 j:Int} (h0:a0<n) (h1:a1<n) (hj:j<n) (hK:1≤K):StG n K (Bw a0 a1 j) :=
 (Cd hj (.inl ⟨rfl,h0⟩) (J6 hK)).append (Cd hj (.inl ⟨rfl,h1⟩) (J6 hK).neg)
theorem Vq {n:Int} {K:Nat} {a2 a3 j:Int} {q:Rat} (h2:a2<n) (h3:a3<n) (hj:j<n) (hq:LimQ q K):StG n K (Gv a2 a3 j q) :=
 (Cd hj (.inl ⟨rfl,h2⟩) hq.neg).append (Cd hj (.inl ⟨rfl,h3⟩) hq)
theorem Zo {n:Int} {K:Nat} {cap:Bool} {a0 a1 j mode method:Int} {y:Rat} (h0:a0<n) (h1:a1<n) (hj:j<n) (hK:1≤K) (hy:mode≠1→LimQ y K):StG n K (D8 cap a0 a1 j mode method y):=by
 have c1:=J6 hK
 refine (O5 h0 h1 hj hK).append (StG.append ?_ ?_)
 ·split
  ·exact StG.nil _ _
  ·exact Hs h0 h1 hj hK
 ·split
  ·split
   ·exact Cd hj (.inl ⟨rfl,hj⟩) c1
   ·exact StG.nil _ _
  ·rename_i hm
   have hq:=hy hm
   split
   ·refine (Cd hj (.inl ⟨rfl,hj⟩) c1).append ((Cd hj (.inl ⟨rfl,h0⟩) hq.neg).append ((Cd hj (.inl ⟨rfl,h1⟩) hq).append ((Cd hj (.inr (.inl ⟨rfl,h0⟩)) hq.neg).append ((Cd hj (.inr (.inl ⟨rfl,h1⟩)) hq).append ?_))))
    split
    ·exact Cd hj (.inr (.inl ⟨rfl,hj⟩)) c1.neg
    ·exact StG.nil _ _
   ·refine (Cd hj (.inl ⟨rfl,hj⟩) hq.neg).append ((Cd hj (.inr (.inl ⟨rfl,hj⟩)) hq.neg).append ?_)
    split
    ·exact (Cd hj (.inr (.inl ⟨rfl,h0⟩)) c1.neg).append (Cd hj (.inr (.inl ⟨rfl,h1⟩)) c1)
    ·exact StG.nil _ _
theorem Ch (kind r c:Int) (q:Rat):(put1 kind r c q).length≤1:=by unfold put1;split<;>simp
theorem Ky (a0 a1 c e:Int) (q:Rat):(C7 a0 a1 c e q).length≤4:=by
 have h:=Ch
 have h1:=h 1 a0 c q;have h2:=h 1 a0 e (-q);have h3:=h 1 a1 c (-q);have h4:=h 1 a1 e q
 simp only [C7,List.length_append];omega
theorem Ww (a2 a3 j:Int) (q:Rat):(Gv a2 a3 j q).length≤2:=by
 have h1:=Ch 1 j a2 (-q);have h2:=Ch 1 j a3 q
 simp only [Gv,List.length_append];omega
theorem Ej {P:Prop} [Decidable P] {L M:List StampP} {n:Nat} (h:L.length≤n) (k:M.length≤n):(if P then L else M).length≤n:=by split<;>assumption
theorem Cf {L M:List StampP} {a b:Nat} (h:L.length≤a) (k:M.length≤b):(L++M).length≤a+b:=by rw [List.length_append];omega
theorem Fc {L:List StampP} {a b:Nat} (h:L.length≤a) (hab:a≤b):L.length≤b:=Nat.le_trans h hab
theorem Ux (cap:Bool) (a0 a1 j mode method:Int) (y:Rat):(D8 cap a0 a1 j mode method y).length≤10:=by
 have h:=Ch
 have hn:([]:List StampP).length≤2:=by simp
 unfold D8
 refine Fc (Cf (Eb _ _ _) (Cf (Ej hn (Cw _ _ _)) (Ej (Ej (Fc (h _ _ _ _) (by omega)) (Fc hn (by omega))) (Ej (n:=6) (Cf (h _ _ _ _) (Cf (h _ _ _ _) (Cf (h _ _ _ _) (Cf (h _ _ _ _) (Cf (h _ _ _ _) (Ej (h _ _ _ _) (by simp))))))) ?_)))) (by omega)
 exact Fc (Cf (h _ _ _ _) (Cf (h _ _ _ _) (Ej (Cf (h _ _ _ _) (h _ _ _ _)) (by simp)))) (by omega)
theorem Ti (d:DevP) (br:List Int) (k mode method:Int) (step:Int × Int) (seg:Nat):(Cb d br k mode method step seg).length≤16:=by
 have h:=Ch
 have c:=Ky
 have o:=Eb
 have a:=Cw
 have l:=Ww
 unfold Cb
 simp only []
 refine Ej (Fc (c _ _ _ _ _) (by omega)) (Ej (Fc (c _ _ _ _ _) (by omega)) (Ej (Fc (Cf (o _ _ _) (Cf (a _ _ _) (h _ _ _ _))) (by omega)) (Ej (Fc (Cf (h _ _ _ _) (h _ _ _ _)) (by omega)) (Ej (Fc (Cf (o _ _ _) (Cf (a _ _ _) (l _ _ _ _))) (by omega)) (Ej (Fc (Cf (h _ _ _ _) (h _ _ _ _)) (by omega)) (Ej (Fc (Cf (o _ _ _) (Cf (a _ _ _) (h _ _ _ _))) (by omega)) (Ej (Fc (Cf (o _ _ _) (Cf (h _ _ _ _) (Cf (h _ _ _ _) (Cf (a _ _ _) (l _ _ _ _))))) (by omega)) (Ej (Fc (Ux _ _ _ _ _ _ _) (by omega)) ?_))))))))
 exact Fc (Cf (c _ _ _ _ _) (Ej (Cf (h _ _ _ _) (h _ _ _ _)) (by simp))) (by omega)
theorem Lh {K:Nat} (hK:1≤K):LimQ ((2:Int) /. 1) K:=LimQ.mono (show LimQ ((2:Int) /. 1) 1 from ⟨by decide,by decide⟩) hK
theorem Xl {d:DevP} {br:List Int} {k mode method:Int} {step:Int × Int} {seg:Nat} {n:Int} (hat:∀ i,d.at i<n) (hJ:isBr d.kind=true→br.getD k.toNat 0<n) (hR:d.kind=102∨d.kind=104→br.getD d.ref.toNat 0<n) (hk:k<64)
  (hv:NumOK d.val.1 d.val.2) (hv0:d.kind=114→d.val.1≠0) (hst:mode≠1→NumOK step.1 step.2∧step.1≠0) (hg:LimQ (pQ (d.mg.getD seg (0,0))) 128) (hc:LimQ (Hm d.mkind d.mg d.mv seg) 128):StG n 128 (Cb d br k mode method step seg):=by
 have lx:LimQ (numQ d.val.1 d.val.2) 128:=(Ba hv).mono (by omega)
 unfold Cb
 simp only []
 split
 ·rename_i h;exact Ka (hat _) (hat _) (hat _) (hat _) (((Ba hv).inv (Er hv (hv0 h))).mono (by omega))
 split
 ·exact Ka (hat _) (hat _) (hat _) (hat _) lx
 split
 ·rename_i h
  have hj:=hJ (by rw [h];rfl)
  exact (O5 (hat _) (hat _) hj (by omega)).append ((Hs (hat _) (hat _) hj (by omega)).append (Cd hj (.inr (.inr (.inl ⟨rfl,hk⟩))) (J6 (by omega))))
 split
 ·exact (Cd (hat _) (.inr (.inr (.inl ⟨rfl,hk⟩))) (J6 (by omega)).neg).append (Cd (hat _) (.inr (.inr (.inl ⟨rfl,hk⟩))) (J6 (by omega)))
 split
 ·rename_i h
  have hj:=hJ (by rw [h];rfl)
  exact (O5 (hat _) (hat _) hj (by omega)).append ((Hs (hat _) (hat _) hj (by omega)).append (Vq (hat _) (hat _) hj lx))
 split
 ·rename_i h
  have hr:=hR (.inl h)
  exact (Cd (hat _) (.inl ⟨rfl,hr⟩) lx).append (Cd (hat _) (.inl ⟨rfl,hr⟩) lx.neg)
 split
 ·rename_i h
  have hr:=hR (.inr h)
  have hj:=hJ (by rw [h];rfl)
  exact (O5 (hat _) (hat _) hj (by omega)).append ((Hs (hat _) (hat _) hj (by omega)).append (Cd hj (.inl ⟨rfl,hr⟩) lx.neg))
 split
 ·rename_i h
  have hj:=hJ (by rw [h];rfl)
  exact (O5 (hat _) (hat _) hj (by omega)).append ((Cd (hat _) (.inl ⟨rfl,hj⟩) lx.neg).append ((Cd (hat _) (.inl ⟨rfl,hj⟩) lx).append ((Hs (hat _) (hat _) hj (by omega)).append (Vq (hat _) (hat _) hj lx))))
 split
 ·rename_i h
  have hj:=hJ (by rcases h with h | h<;>rw [h]<;>rfl)
  refine Zo (hat _) (hat _) hj (by omega) fun hm=>?_
  obtain ⟨s1,s2⟩:=hst hm
  have hq:=LimQ.quo (Ba hv) (Ba s1) (Er s1 s2)
  unfold Uy
  split
  ·exact (LimQ.mul hq (Lh (by omega))).mono (by omega)
  ·exact hq.mono (by omega)
 ·refine (Ka (hat _) (hat _) (hat _) (hat _) hg).append ?_
  split
  ·exact (Cd (hat _) (.inr (.inr (.inr ⟨rfl,rfl⟩))) hc.neg).append (Cd (hat _) (.inr (.inr (.inr ⟨rfl,rfl⟩))) hc)
  ·exact StG.nil _ _
end
section
open Go.RowKit Go.Maps
open Rat
structure A1j (f:Bf) (d:DevP):Prop where
 nodes:NodesOK d
 num:(d.nodes.length:Int)=Cl d.kind
 kind:Cl d.kind≠0
 low:∀ i,d.at i<unk f
 val:NumOK d.val.1 d.val.2
 val0:d.kind=114∨d.kind=99∨d.kind=108→d.val.1≠0
 ref:d.kind=102∨d.kind=104→0≤d.ref∧d.ref.toNat<f.devs.length∧(f.devs.getD d.ref.toNat dev0).kind=118
 model:Bp d.kind=true→Bk d.mname.data.toList d.mkind d.mg d.mv=true∧d.mkind=d.kind
 plain:Bp d.kind=false→d.mg=[]∧d.mv=[]
theorem Wq {l:List Int} {i:Nat} (h:¬ i<l.length):l.getD i 0=0:=by simp [List.getD,List.getElem?_eq_none (Nat.le_of_not_lt h)]
theorem Zb {K:Nat} (h:1≤K):LimQ 0 K:=LimQ.mono (show LimQ 0 1 from ⟨by decide,by decide⟩) h
theorem Qu:NumOK 0 0:=.inl ⟨rfl,rfl⟩
theorem Vy {p:Int × Int} (h:valZ p=true):NumOK p.1 p.2:=by
 unfold valZ at h
 simp only [Bool.and_eq_true,decide_eq_true_eq] at h
 rw [h.1,h.2];exact Qu
theorem Ml {nm:ByteArray} {kind:Int} {g v:List (Int × Int)} (h:Ci nm kind g.length v.length=true):g=[]∧v=[]:=by
 unfold Ci at h
 simp only [Bool.and_eq_true,decide_eq_true_eq] at h
 exact ⟨List.length_eq_zero_iff.1 (by omega),List.length_eq_zero_iff.1 (by omega)⟩
theorem No {f:Bf} {k:Nat} (h0:Cq f=0) (hk:k<f.devs.length):A1j f (f.devs.getD k dev0):=by
 obtain ⟨n1,_,_,n2,hd⟩:=Fb h0
 have hb:=hd k hk
 obtain ⟨a1,a2,a3,a4⟩:=Wm hb n1
 have hlow:∀ i,(f.devs.getD k dev0).at i<unk f:=by
  intro i
  unfold unk DevP.at
  unfold devB at hb
  simp only [Bool.and_eq_true,Gx,decide_eq_true_eq] at hb
  by_cases hi:i<(f.devs.getD k dev0).nodes.length
  ·have:=hb.1.2 i hi;omega
  ·rw [Wq hi];omega
 generalize f.devs.getD k dev0=d at *
 unfold G4 at a4
 split at a4
 ·rename_i hkd
  simp only [Bool.and_eq_true] at a4
  have hbn:Bp d.kind=false:=by unfold Bp;rcases hkd with h | h<;>rw [h]<;>rfl
  exact ⟨a1,a2,a3,hlow,Vy a4.1.1.2,fun h=>by omega,fun h=>by omega,fun h=>absurd h (by rw [hbn];simp),fun _=>Ml a4.1.2⟩
 ·split at a4
  ·rename_i hkd
   simp only [Bool.and_eq_true,decide_eq_true_eq] at a4
   have hbn:Bp d.kind=true:=by unfold Bp;rcases hkd with h | h<;>rw [h]<;>rfl
   exact ⟨a1,a2,a3,hlow,Vy a4.1.1.1.2,fun h=>by omega,fun h=>by omega,fun _=>⟨a4.1.1.2,a4.1.2⟩,fun h=>absurd h (by rw [hbn];simp)⟩
  ·rename_i hk1 hk2
   simp only [Bool.and_eq_true] at a4
   obtain ⟨⟨⟨⟨b1,b2⟩,b3⟩,b4⟩,b5⟩:=a4
   have hbn:Bp d.kind=false:=by unfold Bp;simp only [Bool.or_eq_false_iff,decide_eq_false_iff_not];omega
   refine ⟨a1,a2,a3,hlow,of_decide_eq_true b2,fun h=>?_,fun h=>?_,fun h=>absurd h (by rw [hbn];simp),fun _=>Ml b5⟩
   ·simp only [Bool.or_eq_true,decide_eq_true_eq,Bool.not_eq_true',Bool.or_eq_false_iff,decide_eq_false_iff_not] at b3
    omega
   ·rw [if_pos h] at b1
    simp only [Bool.and_eq_true,decide_eq_true_eq] at b1
    exact ⟨b1.1.1,by omega,b1.2⟩
theorem Sl (ds:List DevP) (t:Nat):∀ e,t+e≤ds.length→nbr ds t≤nbr ds (t+e)
 | 0,_=>Nat.le_refl _
 | e+1,h=>by
  have h1:=Sl ds t e (by omega)
  have h2:=Hx (ds:=ds) (t:=t+e) (by omega)
  rw [←Nat.add_assoc,h2];omega
theorem Y9 {f:Bf} {k:Nat} (h1:1≤f.nodes.length) (hk:k<f.devs.length) (hb:isBr (f.devs.getD k dev0).kind=true):0≤(brs f.devs ((f.nodes.length:Int)-1) f.devs.length).getD k 0∧(brs f.devs ((f.nodes.length:Int)-1) f.devs.length).getD k 0<unk f:=by
 rw [Rx hk]
 unfold brAt unk
 rw [if_pos hb]
 have h2:=Hx (ds:=f.devs) (t:=k) hk
 rw [hb] at h2
 have h3:=Sl f.devs (k+1) (f.devs.length-(k+1)) (by omega)
 rw [show k+1+(f.devs.length-(k+1))=f.devs.length by omega,h2] at h3
 simp only [if_true] at h3
 omega
theorem Nh {l:List (Int × Int)} (h:l.all Bu=true) (k:Nat):NumOK (l.getD k (0,0)).1 (l.getD k (0,0)).2:=by
 by_cases hk:k<l.length
 ·rw [List.all_eq_true] at h
  have:=h l[k] (List.getElem_mem _)
  rw [show l.getD k (0,0)=l[k] by simp [List.getD,List.getElem?_eq_getElem hk]]
  exact of_decide_eq_true this
 ·rw [show l.getD k (0,0)=(0,0) by simp [List.getD,List.getElem?_eq_none (Nat.le_of_not_lt hk)]];exact Qu
theorem Ew {k:Int}:Bp k=true↔k=100∨k=115:=by simp [Bp]
theorem Sr {f:Bf} {d:DevP} (h:A1j f d) {seg:Nat} (hs:Bp d.kind=true→seg<d.mg.length) (hs0:Bp d.kind=false→seg=0):LimQ (pQ (d.mg.getD seg (0,0))) 128∧LimQ (Hm d.mkind d.mg d.mv seg) 128:=by
 cases hb:Bp d.kind with
 | false =>
  obtain ⟨e1,e2⟩:=h.plain hb
  rw [hs0 hb,e1,e2]
  refine ⟨(Ba Qu).mono (by omega),?_⟩
  unfold Hm;split<;>exact Zb (by omega)
 | true =>
  obtain ⟨m1,m2⟩:=h.model hb
  obtain ⟨_,g1,g2,g3⟩:=Mk m1
  have hsl:=hs hb
  refine ⟨(Ba (Nh g1 seg)).mono (by omega),?_⟩
  unfold Hm
  split
  ·refine (Ih (fun k _=>Nh g1 k) (fun k _=>Nh g2 k) seg hsl (by omega) (by omega)).mono ?_
   have:(2:Nat) ^ seg≤2 ^ 3:=Nat.pow_le_pow_right (by omega) (by omega)
   omega
  ·exact Zb (by omega)
theorem Pp {mode method:Int} {step:Int × Int} (h:setB mode method step=true) (hm:mode≠1):NumOK step.1 step.2∧step.1≠0∧mode=2∧(method=1∨method=2):=by
 unfold setB at h
 simp only [Bool.or_eq_true,Bool.and_eq_true,decide_eq_true_eq] at h
 rcases h with h | ⟨⟨⟨h1,h2⟩,h3⟩,h4⟩
 ·exact absurd h hm
 ·exact ⟨of_decide_eq_true h3,by omega,h1,h2⟩
theorem Xm {f:Bf} {k:Nat} {mode method:Int} {step:Int × Int} {seg:Nat} (h0:Cq f=0) (hk:k<f.devs.length) (hst:setB mode method step=true)
  (hs:Bp (f.devs.getD k dev0).kind=true→seg<(f.devs.getD k dev0).mg.length) (hs0:Bp (f.devs.getD k dev0).kind=false→seg=0) :
  StG (unk f) 128 (Cb (f.devs.getD k dev0) (brs f.devs ((f.nodes.length:Int)-1) f.devs.length) k mode method step seg):=by
 have h:=No h0 hk
 obtain ⟨n1,n3,_,n2,_⟩:=Fb h0
 obtain ⟨p1,p2⟩:=Sr h hs hs0
 refine Xl h.low (fun hb=>?_) (fun hb=>?_) (by omega) h.val (fun e=>h.val0 (.inl e)) (fun hm=>?_) p1 p2
 ·rw [Int.toNat_natCast];exact (Y9 n2 hk hb).2
 ·obtain ⟨r1,r2,r3⟩:=h.ref hb
  exact (Y9 n2 r2 (by rw [r3];rfl)).2
 ·obtain ⟨s1,s2,_⟩:=Pp hst hm;exact ⟨s1,s2⟩
end
section
open Go.RowKit Go.Maps
open Rat
theorem Row.ints_at {w:World} {A:Option Addr} {n c:Nat} {l:List Int} (h:Row w (.slice A n c) (ints l)) {i:Nat} (hi:i<l.length):∃ b o,A=some ⟨b,o,none⟩∧w.cell? ⟨b,o+i,none⟩=some (.int .i64 (l.getD i 0)):=by
 rcases h.open with ⟨b,o,c',e,l1,l2,hc⟩ | ⟨_,_,_,_,_,h0⟩
 ·injection e with e1 e2 e3
  rw [D5] at *
  exact ⟨b,o,e1,(hc i hi).trans (J5 l i hi)⟩
 ·have:=congrArg List.length h0;rw [D5] at this;exact absurd (show l.length=0 from this) (by omega)
theorem Kt (ds:List DevP) (t:Nat):∀ e,∃ r,Cp ds (t+e)=Cp ds t++r
 | 0=>⟨[],by simp⟩
 | e+1=>by
  obtain ⟨r,hr⟩:=Kt ds t e
  rw [←Nat.add_assoc,Eu,hr,List.append_assoc]
  exact ⟨_,rfl⟩
theorem Xy {ds:List DevP} {k D:Nat} (hk:k<D) (hb:Bp (ds.getD k dev0).kind=true):(Cp ds k).length<(Cp ds D).length∧(Cp ds D).getD (Cp ds k).length 0=(k:Int):=by
 obtain ⟨r,hr⟩:=Kt ds (k+1) (D-(k+1))
 rw [show k+1+(D-(k+1))=D by omega,Eu,if_pos hb] at hr
 rw [hr]
 constructor
 ·simp
 ·simp [List.getD]
theorem Lv {ds:List DevP} {D:Nat} {x:Int} (h:x∈Cp ds D):∃ k:Nat,x=(k:Int)∧k<D∧Bp (ds.getD k dev0).kind=true:=by
 unfold Cp at h
 obtain ⟨k,hk,rfl⟩:=List.mem_map.1 h
 obtain ⟨h1,h2⟩:=List.mem_filter.1 hk
 exact ⟨k,rfl,List.mem_range.1 h1,h2⟩
def Co (f:Bf):List Int:=Cp f.devs f.devs.length
def segN (f:Bf) (i:Nat):Int:=((f.devs.getD ((Co f).getD i 0).toNat dev0).mg.length:Int)
def H9 (f:Bf) (segs:List Int) (i:Nat):Prop:=0≤segs.getD i 0∧segs.getD i 0<segN f i
instance (f:Bf) (segs:List Int) (i:Nat):Decidable (H9 f segs i):=by unfold H9;infer_instance
def Fg (f:Bf) (segs:List Int):Bool:=decide (segs.length=(Co f).length)&&decide (∀ i,i<(Co f).length→H9 f segs i)
def segI (f:Bf) (segs:List Int) (k:Nat):Int:=if Bp (f.devs.getD k dev0).kind then segs.getD (Cp f.devs k).length 0 else 0
theorem R5 {f:Bf} {segs:List Int} {k:Nat} (h:Fg f segs=true) (hk:k<f.devs.length) (hb:Bp (f.devs.getD k dev0).kind=true):(Cp f.devs k).length<segs.length∧0≤segI f segs k∧segI f segs k<((f.devs.getD k dev0).mg.length:Int):=by
 unfold Fg at h
 simp only [Bool.and_eq_true,decide_eq_true_eq] at h
 obtain ⟨h1,h2⟩:=h
 obtain ⟨e1,e2⟩:=Xy hk hb
 have h3:=h2 _ e1
 unfold H9 segN Co at h3
 rw [e2,Int.toNat_natCast] at h3
 unfold segI
 rw [if_pos hb]
 unfold Co at h1
 exact ⟨by omega,h3⟩
theorem V0 {f:Bf} {segs:List Int} {k:Nat} (hb:Bp (f.devs.getD k dev0).kind=false):segI f segs k=0:=by unfold segI;rw [hb];rfl
def Es (f:Bf) (mode method:Int) (step:Int × Int) (segs:List Int) (k:Nat):List StampP :=
 Cb (f.devs.getD k dev0) (brs f.devs ((f.nodes.length:Int)-1) f.devs.length) k mode method step (segI f segs k).toNat
theorem Kk {f:Bf} {mode method:Int} {step:Int × Int} {segs:List Int} {k:Nat} (h0:Cq f=0) (hk:k<f.devs.length) (hst:setB mode method step=true) (hs:Fg f segs=true):StG (unk f) 128 (Es f mode method step segs k):=by
 refine Xm h0 hk hst (fun hb=>?_) fun hb=>by rw [V0 hb];rfl
 have:=(R5 hs hk hb).2;omega
end
section
open Go.RowKit Go.Maps
open Rat
theorem Row.intsForm {w:World} {v:Value} {l:List Int} (h:Row w v (ints l)):∃ A c,v=.slice A l.length c∧Row w (.slice A l.length c) (ints l):=by
 obtain ⟨A,c,rfl,h2⟩:=id h
 rw [D5] at h ⊢
 exact ⟨A,c,rfl,h⟩
theorem Oi {f:Bf} {segs:List Int} {k:Nat} (hk:k<(Co f).length) (h:¬ H9 f segs k):Fg f segs=false:=by
 unfold Fg
 rw [Bool.and_eq_false_iff]
 exact .inr (decide_eq_false fun hh=>h (hh k hk))
theorem Pn {f:Bf} {segs:List Int} (h:segs.length≠(Co f).length):Fg f segs=false:=by
 unfold Fg;rw [decide_eq_false h];rfl
theorem Tf {f:Bf} {segs:List Int} (h:segs.length=(Co f).length) (h2:∀ t,t<(Co f).length→H9 f segs t):Fg f segs=true:=by
 unfold Fg;rw [decide_eq_true h,decide_eq_true h2];rfl
set_option maxRecDepth 100000 in
theorem Is (w:World) (f:Bf) (A1:Option Addr) (c1:Nat) (A2:Option Addr) (c2:Nat) (hf:FlatAt w f A1 c1 A2 c2) (h0:Cq f=0) (Ab:Option Addr) (cb:Nat) (hb:Row w (.slice Ab (Co f).length cb) (ints (Co f))) (As:Option Addr) (cs:Nat) (segs:List Int) (hs:IntRow w (.slice As segs.length cs) segs) :
    Calls Tryz.prog 42 #[.agg #[.slice A1 f.nodes.length c1,.slice A2 f.devs.length c2,.int .i64 f.step.1,.int .i64 f.step.2,.int .i64 f.method],.slice Ab (Co f).length cb,.slice As segs.length cs] w fun e w'=>e=.returned (.bool (Fg f segs))∧w.grownBy w' none:=by
  have gw:=Af w (.cells #[.slice A1 f.nodes.length c1,.slice A2 f.devs.length c2,.int .i64 f.step.1,.int .i64 f.step.2,.int .i64 f.method] 27) none
  have HFB:=FlatBox.of (Blk.new w #[.slice A1 f.nodes.length c1,.slice A2 f.devs.length c2,.int .i64 f.step.1,.int .i64 f.step.2,.int .i64 f.method] 27)
  have HF:=Ac (hf.more gw)
  have HB:=Ac (hb.more gw)
  have HS:=Ac (hs.more gw)
  have HGW:=Ac gw
  have hdl:=(Fb h0).2.1
  have hbl:(Co f).length≤64:=Nat.le_trans (Du _ _) hdl
  obtain ⟨_,_,hsl,hs1,hs2⟩:=hs.ctor
  have H0:=Ac h0
  clear hf hb hs gw h0 hsl
  by_cases hlen:segs.length=(Co f).length
  · have t1:((segs.length:Int) != ((Co f).length:Int))=false:=by rw [bne_eq_false_iff_eq];omega
    have HLEN:=Ac hlen
    clear hlen
    go_enter Tryz.func42,Tryz.ntmps42
    go_wp2_with fail
    generalize w.alloc (.cells #[.slice A1 f.nodes.length c1,.slice A2 f.devs.length c2,.int .i64 f.step.1,.int .i64 f.step.2,.int .i64 f.method] 27)=wa at *
    generalize w.heap.size=s at *
    go_loopw [16] (fun iv wr=>∃ k:Nat,k≤(Co f).length∧iv=.int .i64 k∧wa.grownBy wr none∧Hid (∀ t,t<k→H9 f segs t)) (fun iv _=>((Co f).length-intOf iv).toNat)
    case atStart=>exact ⟨0,by omega,rfl,Al _ _,Ac fun t ht=>by omega⟩
    case round =>
      obtain ⟨k,hk,rfl,hg,hall⟩:=hrel
      by_cases hlt:k<(Co f).length
      · obtain ⟨bb,ob,rfl,u0⟩:=(HB.out.more hg).ints_at hlt
        obtain ⟨bs,os,rfl,_,u1⟩:=(HS.out.more hg).at (i:=k) (by rw [HLEN.out];exact hlt)
        have hmem:(Co f).getD k 0∈Cp f.devs f.devs.length:=by rw [List.getD_eq_getElem?_getD,List.getElem?_eq_getElem hlt];exact List.getElem_mem _
        obtain ⟨j,hj,hjl,hjb⟩:=Lv hmem
        have hso:H9 f segs k↔0≤segs.getD k 0∧segs.getD k 0<((f.devs.getD j dev0).mg.length:Int):=by unfold H9 segN;rw [hj,Int.toNat_natCast]
        obtain ⟨hmo,hmk⟩:=(No H0.out hjl).model hjb
        obtain ⟨b,o,An,cn,Av,cv,At,ct,Ag,cg,Am,cm,rfl,hat,hc⟩:=(HF.out.more hg).devs.at2 hjl
        rw [hj] at u0
        generalize f.devs.getD j dev0=d at *
        obtain ⟨sv,hsv⟩:∃ sv,segs.getD k 0=sv:=⟨_,rfl⟩
        rw [hsv] at u1 hso
        obtain ⟨q0,q1,q2,q3,q4,q5,q6,q7,q8,q9,q10,q11,q12⟩:=hc
        obtain ⟨p0,p1,p2,p3,p4⟩:=HFB.more hg
        have P1:=fun p=>B8 p1 p
        have U1:=fun p=>B8 u1 p
        have Q9:=fun p=>B8 q9 p
        have Q10:=fun p=>B8 q10 p
        have Q11:=fun p=>B8 q11 p
        have Q12:=fun p=>B8 q12 p
        have hC:=fun p=>M9 (gr wr p) d.mname d.mkind _ _ d.mg d.mv hat.mkind.1 hat.mkind.2 (hat.g.more (Bc _ p)) (hat.v.more (Bc _ p))
        rw [if_pos hmo] at hC
        have HC:=Ac hC
        have HSO:=Ac hso
        have HALL:=Ac hall
        have HG:=Ac hg
        have HLT:=Ac hlt
        have e0:(0:Int)≤(k:Int):=by omega
        have e1:(k:Int)<(segs.length:Int):=by have:=HLEN.out;omega
        have e2:(k:Int)<((Co f).length:Int):=by omega
        have e3:(j:Int)<(f.devs.length:Int):=by omega
        have e4:(0:Int)≤(j:Int):=by omega
        clear hC hmo hmk hat hso hall hg hmem hj hsv q0 q1 q2 q3 q4 q5 q6 q7 q8 p0 p1 p2 p3 p4 hjb
        by_cases hneg:sv<0
        · as_aux_lemma =>
            have g1:decide (sv<0)=true:=by rw [decide_eq_true_iff];exact hneg
            have HNO:=Ac (Oi HLT.out fun h=>by have:=HSO.out.1 h;omega)
            clear hneg
            go_wp2_with fail
            (refine Bq (by kernel_rfl) (by kernel_rfl) ?_
             repeat (go_big_quiet_step (fail))
             refine wpQuiet_nil ?_
             intro _ hw'
             obtain ⟨pq,hw''⟩:=hw'
             subst hw'')
            have hgq:=Bc wr pq
            generalize gr wr pq=wq at *
            go_wp2_with fail
            go_ret
            exact ⟨by rw [HNO.out];rfl,Ae HGW.out (Ae HG.out hgq)⟩
        · have g1:decide (sv<0)=false:=by rw [decide_eq_false_iff_not];exact hneg
          by_cases hbig:(d.mg.length:Int)≤sv
          · as_aux_lemma =>
              have g2:decide ((d.mg.length:Int)≤sv)=true:=by rw [decide_eq_true_iff];exact hbig
              have HNO:=Ac (Oi HLT.out fun h=>by have:=HSO.out.1 h;omega)
              clear hneg hbig
              go_wp2_with fail
              (refine Bq (by kernel_rfl) (by kernel_rfl) ?_
               repeat (go_big_quiet_step ((go_at_call 93;exact Dc (HC.out _))))
               refine wpQuiet_nil ?_
               intro _ hw'
               obtain ⟨pq,hw''⟩:=hw'
               subst hw'')
              have hgq:=Bc wr pq
              generalize gr wr pq=wq at *
              go_wp2_with fail
              go_ret
              exact ⟨by rw [HNO.out];rfl,Ae HGW.out (Ae HG.out hgq)⟩
          · as_aux_lemma =>
              have g2:decide ((d.mg.length:Int)≤sv)=false:=by rw [decide_eq_false_iff_not];exact hbig
              have HYES:=Ac (HSO.out.2 ⟨by omega,by omega⟩)
              clear hneg hbig
              go_wp2_with fail
              (refine Bq (by kernel_rfl) (by kernel_rfl) ?_
               repeat (go_big_quiet_step ((go_at_call 93;exact Dc (HC.out _))))
               refine wpQuiet_nil ?_
               intro _ hw'
               obtain ⟨pq,hw''⟩:=hw'
               subst hw'')
              have hgq:=Bc wr pq
              generalize gr wr pq=wq at *
              go_wp2_with fail
              exact ⟨⟨k+1,HLT.out,by go_num,Ae HG.out hgq,Ac fun t ht=>by
                by_cases htk:t=k
                · subst htk;exact HYES.out
                · exact HALL.out t (by omega)⟩,by simp [intOf];omega⟩
      · as_aux_lemma =>
          obtain rfl:k=(Co f).length:=by omega
          go_wp2_with fail
          go_ret
          exact ⟨by rw [Tf HLEN.out hall.out];rfl,Ae HGW.out hg⟩
  · as_aux_lemma =>
      have t1:((segs.length:Int) != ((Co f).length:Int))=true:=by rw [bne_iff_ne];omega
      have HNO:=Ac (Pn hlen)
      clear hlen
      go_enter Tryz.func42,Tryz.ntmps42
      go_wp2_with fail
      generalize w.alloc (.cells #[.slice A1 f.nodes.length c1,.slice A2 f.devs.length c2,.int .i64 f.step.1,.int .i64 f.step.2,.int .i64 f.method] 27)=wa at *
      generalize w.heap.size=s at *
      go_ret
      exact ⟨by rw [HNO.out];rfl,HGW.out⟩
end
end Go.Proofs.YtmfmfpmkgmkgiaaGreatDoor
