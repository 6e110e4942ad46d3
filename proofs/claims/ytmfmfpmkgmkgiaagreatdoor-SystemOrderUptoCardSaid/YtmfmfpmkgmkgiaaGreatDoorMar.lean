/- SrcA CpyA LonA ModH LonB. -/
import Derived.Test.YtmfmfpmkgmkgiaaGreatDoorMal
import Derived.Test.YtmfmfpmkgmkgiaaGreatDoorMap
import Derived.Test.YtmfmfpmkgmkgiaaGreatDoorMaq
import Derived.Test.YtmfmfpmkgmkgiaaGreatDoorMaj
import Derived.Test.YtmfmfpmkgmkgiaaGreatDoorMah
import Derived.Lib.SplitLaws
import Derived.Test.YtmfmfpmkgmkgiaaGreatDoorMaf
set_option linter.unusedVariables false
set_option linter.unusedSimpArgs false
set_option maxHeartbeats 40000000
namespace Go.Proofs.YtmfmfpmkgmkgiaaGreatDoor
section
open Go.RowKit Go.Maps
theorem Row.introw {w:World} {v:Value} {l:List Int} (h:Row w v (ints l)) (hi:∀ x∈l,I64 x):IntRow w v l:=by
 obtain ⟨A,c,rfl,h1,h2,h3⟩:=h
 have hl:(ints l).length=l.length:=by simp [ints]
 rw [hl] at h1
 refine ⟨A,c,by rw [hl],h1,h2,hi,fun hp=>?_⟩
 rcases h3 with ⟨h0,_⟩ | ⟨b,o,rfl,h3⟩
 ·have:=congrArg List.length h0;rw [hl] at this;exact absurd (show l.length=0 from this) (by omega)
 ·refine ⟨b,o,rfl,fun i hj=>?_⟩
  rw [h3 i (by omega)]
  simp [ints,hj,List.getD]
theorem Pi:(Tryz.prog.info? 2).map (fun i=>(i.zero,i.size,i.bytes))=some (some (.int .i64 0),1,8):=by kernel_rfl
def Nq (k:Int):Bool:=decide (k=118)||decide (k=105)
def srcs (ds:List DevP) (step:Int):Nat→List Int
 | 0=>[]
 | t+1=>srcs ds step t++[if Nq (ds.getD t dev0).kind then dcV (ds.getD t dev0).wvals step else 0]
theorem Mp (ds:List DevP) (step:Int):∀ t,(srcs ds step t).length=t
 | 0=>rfl
 | t+1=>by
  have:=Mp ds step t
  simp only [srcs,List.length_append,List.length_cons,List.length_nil]
  omega
theorem Xj (ds:List DevP) (step:Int) (t:Nat):srcs ds step (t+1)=srcs ds step t++[if Nq (ds.getD t dev0).kind then dcV (ds.getD t dev0).wvals step else 0]:=rfl
set_option maxRecDepth 100000 in
theorem Nd (w:World) (f:Bf) (A1:Option Addr) (c1:Nat) (A2:Option Addr) (c2:Nat) (hf:FlatAt w f A1 c1 A2 c2) (hG:GlobOK w) (h0:Cq f=0) (step:Int)
  (hw:∀ k,k<f.devs.length→Nq (f.devs.getD k dev0).kind=true→(f.devs.getD k dev0).wkind=1∧Di 1 (f.devs.getD k dev0).wvals (f.devs.getD k dev0).wsteps∧dcE (f.devs.getD k dev0).wvals step=0) :
  Calls Tryz.prog 27 #[.agg #[.slice A1 f.nodes.length c1,.slice A2 f.devs.length c2,.int .i64 f.step.1,.int .i64 f.step.2,.int .i64 f.method],.int .i64 step] w fun e w'=>∃ v,e=.returned (.tuple #[v,.int .i64 0])∧Row w' v (ints (srcs f.devs step f.devs.length))∧w.grownBy w' none:=by
 have gw:=Af w (.cells #[.slice A1 f.nodes.length c1,.slice A2 f.devs.length c2,.int .i64 f.step.1,.int .i64 f.step.2,.int .i64 f.method] 27) none
 have hB:=FlatBox.of (Blk.new w #[.slice A1 f.nodes.length c1,.slice A2 f.devs.length c2,.int .i64 f.step.1,.int .i64 f.step.2,.int .i64 f.method] 27)
 have HB:=Ac hB
 have HF:=Ac hf
 have hn2:=hf.n2
 have HW:=Ac hw
 have HC:=Ac (Dm (w.alloc (.cells #[.slice A1 f.nodes.length c1,.slice A2 f.devs.length c2,.int .i64 f.step.1,.int .i64 f.step.2,.int .i64 f.method] 27)) f A1 c1 A2 c2 (hf.more gw) (hG.more gw))
 rw [h0] at HC
 obtain ⟨p0,p1,p2,p3,p4⟩:=hB
 have HGW:=Ac gw
 clear hf hG h0 hw gw
 go_enter Tryz.func27,Tryz.ntmps27
 go_wp2_with fail
 generalize w.alloc (.cells #[.slice A1 f.nodes.length c1,.slice A2 f.devs.length c2,.int .i64 f.step.1,.int .i64 f.step.2,.int .i64 f.method] 27)=wa at *
 generalize hs:w.heap.size=s at *
 clear hs
 refine HC.out.mono ?_
 rintro e w1 ⟨rfl,hg1⟩
 have HG1:=Ac (Ae HGW.out hg1)
 obtain ⟨p0,p1,p2,p3,p4⟩:=HB.out.more hg1
 clear hg1 HC HGW
 go_wp2_with fail
 go_loopw [7,20] (fun v i wr=>∃ k:Nat,k≤f.devs.length∧i=.int .i64 k∧wr.ownsRow w1.heap.size 2 1 v k (ints (srcs f.devs step k))∧w1.grownBy wr none) (fun _ i _=>(f.devs.length-intOf i).toNat)
 case atStart=>exact ⟨0,by omega,rfl,World.ownsRow_nil _ _ _ _,Al _ _⟩
 case round =>
  obtain ⟨k,hk,rfl,hown,hg⟩:=hrel
  have hbl:=Mp f.devs step k
  by_cases hlt:k<f.devs.length
  ·obtain ⟨b,o,An,cn,Av,cv,As,cs,Ag,cg,Am,cm,rfl,hat,hc⟩:=(HF.out.more (Ae HG1.out hg)).devs.at2 hlt
   have hbs:=Xj f.devs step k
   have hwk:=HW.out k hlt
   generalize f.devs.getD k dev0=d at *
   obtain ⟨q0,q1,q2,q3,q4,q5,q6,q7,q8,q9,q10,q11,q12⟩:=hc
   have ga:=Af wr (.cells #[.int .u8 d.kind,.string d.name,.slice An d.nodes.length cn,.int .i64 d.ref,.int .i64 d.val.1,.int .i64 d.val.2,.int .i64 d.wkind,.slice Av d.wvals.length cv,.slice As d.wsteps.length cs,.string d.mname,.int .u8 d.mkind,.slice Ag d.mg.length cg,.slice Am d.mv.length cm] 89) none
   obtain ⟨r0,-,-,-,-,-,r6,r7,r8,-,-,-,-⟩:=DevBox.of (Blk.new wr #[.int .u8 d.kind,.string d.name,.slice An d.nodes.length cn,.int .i64 d.ref,.int .i64 d.val.1,.int .i64 d.val.2,.int .i64 d.wkind,.slice Av d.wvals.length cv,.slice As d.wsteps.length cs,.string d.mname,.int .u8 d.mkind,.slice Ag d.mg.length cg,.slice Am d.mv.length cm] 89)
   have hown2:=hown.alloc (.cells #[.int .u8 d.kind,.string d.name,.slice An d.nodes.length cn,.int .i64 d.ref,.int .i64 d.val.1,.int .i64 d.val.2,.int .i64 d.wkind,.slice Av d.wvals.length cv,.slice As d.wsteps.length cs,.string d.mname,.int .u8 d.mkind,.slice Ag d.mg.length cg,.slice Am d.mv.length cm] 89)
   have hsb:=(Ae hg ga).size
   by_cases hb:d.kind=118∨d.kind=105
   ·have hbb:Nq d.kind=true:=by unfold Nq;rcases hb with h | h<;>simp [h]
    rw [if_pos hbb] at hbs
    obtain ⟨hk1,hok,he⟩:=hwk hbb
    have hwc:=(U8 (wr.alloc (.cells #[.int .u8 d.kind,.string d.name,.slice An d.nodes.length cn,.int .i64 d.ref,.int .i64 d.val.1,.int .i64 d.val.2,.int .i64 d.wkind,.slice Av d.wvals.length cv,.slice As d.wsteps.length cs,.string d.mname,.int .u8 d.mkind,.slice Ag d.mg.length cg,.slice Am d.mv.length cm] 89)) (.slice Av d.wvals.length cv) (.slice As d.wsteps.length cs) d.wvals d.wsteps step (hat.vals.more ga) (hat.steps.more ga) hok)
    rw [he,←hk1] at hwc
    have HWC:=Ac hwc
    clear hwc
    generalize dcV d.wvals step=V at *
    have HBS:=Ac hbs
    have HGA:=Ac (Ae hg ga)
    have HOW:=Ac hown2
    have HLT:=Ac hlt
    have hkk:(d.kind==118)=true∨((d.kind==118)=false∧(d.kind==105)=true):=by
     simp only [beq_iff_eq,beq_eq_false_iff_ne];omega
    clear hbs hb hbb hat hok he hk1 hwk hg ga hown hown2
    rcases hkk with t118 | ⟨t118,t105⟩
    all_goals
     go_wp2_with fail
     generalize wr.alloc (.cells #[.int .u8 d.kind,.string d.name,.slice An d.nodes.length cn,.int .i64 d.ref,.int .i64 d.val.1,.int .i64 d.val.2,.int .i64 d.wkind,.slice Av d.wvals.length cv,.slice As d.wsteps.length cs,.string d.mname,.int .u8 d.mkind,.slice Ag d.mg.length cg,.slice Am d.mv.length cm] 89)=wb at HWC HGA HOW r0 r6 r7 r8 hsb ⊢
     refine HWC.out.mono ?_
     rintro e w3 ⟨rfl,hg3⟩
     have hown2:=Xd HOW.out hg3
     have HGC:=Ac (Ae HGA.out hg3)
     have hs3:=hg3.size
     have HO2:=Ac hown2
     clear hg3 r0 r6 r7 r8
     go_wp2_with (first
      | (at_builtin;refine Fp w1.heap.size rfl (.tmp 41) (.tmp 43) 59 2 (.int .i64 0) 1 8 rfl Tryz.underlying59 Pi rfl (by omega) (by omega) u7 k (ints (srcs f.devs step k)) #[.int .i64 V] (by rfl) hown2 (by rfl) rfl (by simp [Value.oneCell']) (by omega) (by omega) ?_;intro v1 w5 hown1 hg5 hat1)
      | fail)
     go_roundw
     case rel=>exact ⟨k+1,by omega,by go_num,by rw [HBS.out,F4];exact hown1,Ep HGC.out hg5 (D4 HO2.out)⟩
     case measure=>simp [intOf];omega
   ·have hbb:Nq d.kind=false:=by unfold Nq;simp;omega
    rw [if_neg (by rw [hbb];simp)] at hbs
    have HBS:=Ac hbs
    have t118:(d.kind==118)=false:=by rw [beq_eq_false_iff_ne];omega
    have t105:(d.kind==105)=false:=by rw [beq_eq_false_iff_ne];omega
    clear hbs hb hbb hat hwk
    have HGC:=Ac (Ae hg ga)
    have HO2:=Ac hown2
    go_upto_region 14 with (fail)
    generalize wr.alloc (.cells #[.int .u8 d.kind,.string d.name,.slice An d.nodes.length cn,.int .i64 d.ref,.int .i64 d.val.1,.int .i64 d.val.2,.int .i64 d.wkind,.slice Av d.wvals.length cv,.slice As d.wsteps.length cs,.string d.mname,.int .u8 d.mkind,.slice Ag d.mg.length cg,.slice Am d.mv.length cm] 89)=w3 at *
    go_wp2_with (first
     | (at_builtin;refine Fp w1.heap.size rfl (.tmp 41) (.tmp 43) 59 2 (.int .i64 0) 1 8 rfl Tryz.underlying59 Pi rfl (by omega) (by omega) u7 k (ints (srcs f.devs step k)) #[.int .i64 0] (by rfl) hown2 (by rfl) rfl (by simp [Value.oneCell']) (by omega) (by omega) ?_;intro v1 w5 hown1 hg5 hat1)
     | fail)
    go_roundw
    case rel=>exact ⟨k+1,by omega,by go_num,by rw [HBS.out,F4];exact hown1,Ep HGC.out hg5 (D4 HO2.out)⟩
    case measure=>simp [intOf];omega
  ·obtain rfl:k=f.devs.length:=by omega
   have HR:=Ac (E5 hown)
   clear hown
   go_wp2_with fail
   go_ret2
   exact ⟨_,rfl,HR.out,Ae HG1.out hg⟩
end
section
open Go.RowKit Go.Maps
def IntS (w:World) (v:Value) (l:List Int):Prop:=Stab (fun w'=>IntRow w' v l) w
def NumS (w:World) (v:Value) (l:List (Int × Int)):Prop:=Stab (fun w'=>NumRow w' v l) w
theorem IntRow.cells {w:World} {A:Option Addr} {n c:Nat} {l:List Int} (h:IntRow w (.slice A n c) l) (hp:0<l.length):∃ b o,A=some ⟨b,o,none⟩∧∀ i,i<l.length→w.cell? ⟨b,o+i,none⟩=some (.int .i64 (l.getD i 0)):=by
 obtain ⟨A0,c0,he,_,_,_,h5⟩:=h
 injection he with e1
 subst e1
 exact h5 hp
theorem IntRow.all {w:World} {v:Value} {l:List Int} (h:IntRow w v l):∀ x∈l,I64 x:=by
 obtain ⟨A0,c0,he,_,_,h4,_⟩:=h
 exact h4
theorem NumRow.all {w:World} {v:Value} {l:List (Int × Int)} (h:NumRow w v l):∀ p∈l,I64 p.1∧I64 p.2:=by
 obtain ⟨A0,c0,he,_,_,h4,_⟩:=h
 exact h4
theorem NumRow.cells {w:World} {A:Option Addr} {n c:Nat} {l:List (Int × Int)} (h:NumRow w (.slice A n c) l) (hp:0<l.length):∃ b o,A=some ⟨b,o,none⟩∧∀ i,i<l.length→w.cell? ⟨b,o+i*2,none⟩=some (.int .i64 (l.getD i (0,0)).1)∧w.cell? ⟨b,o+i*2+1,none⟩=some (.int .i64 (l.getD i (0,0)).2):=by
 obtain ⟨A0,c0,he,_,_,_,h5⟩:=h
 injection he with e1
 subst e1
 exact h5 hp
def Gy:List (Int × Int)→List Value
 | []=>[]
 | p::l=>.int .i64 p.1::.int .i64 p.2::Gy l
theorem Gc:∀ l:List (Int × Int),(Gy l).length=l.length*2
 | []=>rfl
 | p::l=>by rw [Gy,List.length_cons,List.length_cons,Gc l,List.length_cons];omega
theorem Hy:∀ (l:List (Int × Int)) (i:Nat),i<l.length→(Gy l)[i*2]? = some (.int .i64 (l.getD i (0,0)).1)∧(Gy l)[i*2+1]? = some (.int .i64 (l.getD i (0,0)).2)
 | p::l,0,_=>⟨rfl,rfl⟩
 | p::l,i+1,h=>by
  have:=Hy l i (by simpa using h)
  rw [show (i+1)*2=i*2+1+1 by omega,Gy]
  simpa using this
theorem Lx (l:List (Int × Int)):∀ u∈Gy l,u.oneCell'=true:=by
 induction l with
 | nil=>simp [Gy]
 | cons p l ih =>
  intro u hu
  rw [Gy] at hu
  rcases List.mem_cons.1 hu with rfl | hu
  ·rfl
  ·rcases List.mem_cons.1 hu with rfl | hu
   ·rfl
   ·exact ih u hu
theorem NumRow.src {w:World} {A:Option Addr} {n c:Nat} {l:List (Int × Int)} (h:NumRow w (.slice A n c) l) (hp:0<l.length):∃ b o,A=some ⟨b,o,none⟩∧∀ j,j<l.length*2→w.cell? ⟨b,o+j,none⟩=(Gy l)[j]?:=by
 obtain ⟨b,o,rfl,hc⟩:=h.cells hp
 refine ⟨b,o,rfl,fun j hj=>?_⟩
 have h1:=hc (j/2) (by omega)
 have h2:=Hy l (j/2) (by omega)
 rcases Nat.mod_two_eq_zero_or_one j with e | e
 ·rw [show j=j/2*2 by omega,h2.1];exact h1.1
 ·rw [show j=j/2*2+1 by omega,h2.2,←Nat.add_assoc];exact h1.2
theorem Sq {w:World} {base:Nat} {e:TypeId} {v:Value} {l:List Int} (h:w.ownsRow base e 1 v l.length (ints l)) (hi:∀ x∈l,I64 x):IntS w v l:=by
 intro w' hs
 have hr:=(E5 h).introw hi
 rcases h.2 with ⟨rfl,h0⟩ | ⟨g,cap,cur,rfl,_⟩
 ·obtain rfl:l=[]:=List.eq_nil_of_length_eq_zero (by omega)
  exact ⟨none,0,rfl,Nat.le_refl _,by omega,by simp,fun h=>by simp at h⟩
 ·obtain ⟨A,c,he,q1,q2,q3,q4⟩:=hr
  injection he with e1 e2 e3
  subst e1 e3
  refine ⟨_,_,rfl,q1,q2,q3,fun hp=>?_⟩
  obtain ⟨b,o,hA,hc⟩:=q4 hp
  injection hA with hA
  injection hA with hb ho
  subst hb ho
  refine ⟨g,0,rfl,fun i hi=>?_⟩
  exact hs.ints g _ _ _ (by have:=hc 0 hp;rwa [Nat.zero_add] at this) (hc i hi)
theorem O6 {w:World} {base:Nat} {e:TypeId} {v:Value} {l:List (Int × Int)} (h:w.ownsRow base e 2 v l.length (Gy l)) (hi:∀ p∈l,I64 p.1∧I64 p.2):NumS w v l:=by
 intro w' hs
 have hcell:∀ {g:Nat},v.ownBlock=some g→∀ j u,(Gy l)[j]? = some u→w.cell? ((⟨g,0,none⟩:Addr).add j)=some u:=fun hg=>h.cells hg
 rcases h.2 with ⟨rfl,h0⟩ | ⟨g,cap,cur,rfl,_,_,hnc,hcm,_⟩
 ·obtain rfl:l=[]:=List.eq_nil_of_length_eq_zero (by omega)
  exact ⟨none,0,rfl,Nat.le_refl _,by omega,by simp,fun h=>by simp at h⟩
 ·refine ⟨_,_,rfl,hnc,by simp only [maxLen] at hcm;omega,hi,fun hp=>?_⟩
  have hc:=hcell (g:=g) rfl
  have h00:w.cell? ⟨g,0,none⟩=some (.int .i64 (l.getD 0 (0,0)).1):=by
   have:=hc 0 _ (by have:=(Hy l 0 hp).1;rwa [Nat.zero_mul] at this)
   rwa [Me] at this
  refine ⟨g,0,rfl,fun i hi=>?_⟩
  have h1:=hc _ _ (Hy l i hi).1
  have h2:=hc _ _ (Hy l i hi).2
  rw [Me] at h1 h2
  rw [Nat.zero_add]
  exact ⟨hs.ints g _ _ _ h00 h1,hs.ints g _ _ _ h00 h2⟩
def DevW (w:World) (cs:List Value) (d:DevP):Prop :=
 (0≤d.kind∧d.kind≤255)∧(0≤d.mkind∧d.mkind≤255)∧I64 d.ref∧I64 d.val.1∧I64 d.val.2∧I64 d.wkind∧d.name.size<4294967281∧d.small∧
 ∃ vn vv vs vg vm,cs=[.int .u8 d.kind,.string d.name,vn,.int .i64 d.ref,.int .i64 d.val.1,.int .i64 d.val.2,.int .i64 d.wkind,vv,vs,.string d.mname,.int .u8 d.mkind,vg,vm]∧
  IntS w vn d.nodes∧NumS w vv d.wvals∧IntS w vs d.wsteps∧NumS w vg d.mg∧NumS w vm d.mv
theorem DevW.v {w:World} {cs:List Value} {d:DevP} (h:DevW w cs d):DevV w cs d:=by
 obtain ⟨a1,a2,a3,a4,a5,a6,a7,a8,vn,vv,vs,vg,vm,e,h1,h2,h3,h4,h5⟩:=h
 exact ⟨a1,a2,a3,a4,a5,a6,a7,a8,vn,vv,vs,vg,vm,e,h1.here,h2.here,h3.here,h4.here,h5.here⟩
theorem DevW.step {w w':World} {cs:List Value} {d:DevP} (h:DevW w cs d) (hs:StayR w w'):DevW w' cs d:=by
 obtain ⟨a1,a2,a3,a4,a5,a6,a7,a8,vn,vv,vs,vg,vm,e,h1,h2,h3,h4,h5⟩:=h
 exact ⟨a1,a2,a3,a4,a5,a6,a7,a8,vn,vv,vs,vg,vm,e,h1.step hs,h2.step hs,h3.step hs,h4.step hs,h5.step hs⟩
def DevsW (w:World) (base:Nat) (e:TypeId) (v:Value) (L:List DevP):Prop:=∃ n xs,OwnQ w base e 13 v n xs∧RecR 13 (DevW w) xs L
theorem DevsW.row {w:World} {base:Nat} {e:TypeId} {v:Value} {L:List DevP} (h:DevsW w base e v L):DevRow w v L:=by
 obtain ⟨n,xs,h,hi⟩:=h
 obtain ⟨A,c,rfl,h1,h2,h3⟩:=h.recs hi (h.count hi (by omega))
 refine ⟨A,c,rfl,h1,h2,fun hp=>?_⟩
 obtain ⟨b,rfl,h4⟩:=h3 hp
 refine ⟨b,0,rfl,fun i hi=>?_⟩
 obtain ⟨cs,hr,_,hc⟩:=h4 i hi
 refine ⟨cs,by rw [List.getD_eq_getElem?_getD,List.getElem?_eq_getElem hi];exact hr.v,fun j hj=>?_⟩
 rw [Nat.zero_add];exact hc j hj
theorem DevsW.soft {w:World} {base:Nat} {e:TypeId} {v:Value} {L:List DevP} (h:DevsW w base e v L):∀ g,v.ownBlock=some g→0<L.length→Soft w g:=by
 intro g hg hn
 obtain ⟨n,xs,h,hi⟩:=h
 have hcnt:=h.count hi (by omega)
 refine ⟨h.2 g hg,fun m=>?_⟩
 obtain ⟨cs,⟨_,_,_,_,_,_,_,_,vn,vv,vs,vg,vm,rfl,_⟩,hl,hc⟩:=hi.at 0 (by omega)
 have h0:=hc 0 (by omega)
 rw [Nat.zero_mul] at h0
 have:=h.1.cells (g:=g) hg 0 _ h0
 have e:(⟨g,0,none⟩:Addr).add 0=⟨g,0,none⟩:=Me g 0
 rw [e] at this
 rw [this];simp
theorem DevsW.from {w:World} {base:Nat} {e:TypeId} {v:Value} {L:List DevP} (h:DevsW w base e v L):From base v:=by
 obtain ⟨n,xs,h,_⟩:=h
 exact h.from
theorem DevsW.nil (w:World) (base:Nat) (e:TypeId):DevsW w base e (.slice none 0 0) []:=⟨0,[],OwnQ.nil _ _ _ _,RecR.nil _ _⟩
theorem DevsW.more {w w':World} {base:Nat} {e:TypeId} {v:Value} {L:List DevP} (h:DevsW w base e v L) (hg:w.grownBy w' none):DevsW w' base e v L:=by
 obtain ⟨n,xs,h,hi⟩:=h
 exact ⟨n,xs,h.more hg,hi.imp fun _ _ hr=>hr.step (StayR.none hg)⟩
/-! ### a copy's stages -/
theorem A00 {a b:World} {row:Option Nat} (hg:a.grownBy b row) (hs:∀ r,row=some r→Soft a r):StayR a b:=by
 cases row with
 | none=>exact StayR.none hg
 | some r=>exact StayR.row hg (hs r rfl)
def Ve (cs:Array Value):Prop:=(∀ u∈cs.toList,∀ n,u≠.int .u32 n)∧∀ n,cs[0]?≠some (.int .i64 n)
theorem Blk.soft {w:World} {b:Nat} {cs:Array Value} (h:Blk w b cs) (hs:Ve cs):Soft w b:=by
 obtain ⟨T,h⟩:=h
 refine ⟨C1 h hs.1,fun n=>?_⟩
 rw [Ay h]
 exact hs.2 n
theorem Jk (K:Int) (nm:ByteArray) (An:Option Addr) (ln cn:Nat) (rf v1 v2 wk:Int) (Av:Option Addr) (lv cv:Nat) (As:Option Addr) (ls cs:Nat) (mn:ByteArray) (mk:Int) (Ag:Option Addr) (lg cg:Nat) (Am:Option Addr) (lm cm:Nat) :
  Ve #[.int .u8 K,.string nm,.slice An ln cn,.int .i64 rf,.int .i64 v1,.int .i64 v2,.int .i64 wk,.slice Av lv cv,.slice As ls cs,.string mn,.int .u8 mk,.slice Ag lg cg,.slice Am lm cm]:=by
 constructor
 ·intro u hu n
  simp only [List.mem_cons,List.not_mem_nil,or_false] at hu
  rcases hu with rfl | rfl | rfl | rfl | rfl | rfl | rfl | rfl | rfl | rfl | rfl | rfl | rfl<;>simp
 ·intro n;simp
theorem Vo (A1 A2:Option Addr) (n1 c1 n2 c2:Nat) (x y z:Int):Ve #[.slice A1 n1 c1,.slice A2 n2 c2,.int .i64 x,.int .i64 y,.int .i64 z]:=by
 constructor
 ·intro u hu n
  simp only [List.mem_cons,List.not_mem_nil,or_false] at hu
  rcases hu with rfl | rfl | rfl | rfl | rfl<;>simp
 ·intro n;simp
structure Stg (w0 w:World) (z:Nat) (cs:Array Value):Prop where
 gb:w0.grownBy w none
 sz:w0.heap.size≤z
 blk:Blk w z cs
theorem Kz {w0 w w1:World} {z:Nat} {cs:Array Value} {e:TypeId} (h:Stg w0 w z cs) (hs:Ve cs) (hg:(w.alloc (.cells #[] e)).grownBy w1 (some w.heap.size)) (c:Nat) (v:Value) :
  Stg w0 (w1.setCell ⟨z,c,none⟩ v) z (cs.setIfInBounds c v)∧StayR w1 (w1.setCell ⟨z,c,none⟩ v)∧StayR w (w1.setCell ⟨z,c,none⟩ v):=by
 have g1:w.grownBy w1 none:=Aw (Af w _ none) hg (Nat.le_refl _)
 have hb:=h.blk.more g1
 have s1:=StayR.row (Au w1 z c v) (hb.soft hs)
 exact ⟨⟨Aw (Ae h.gb g1) (Au _ _ _ _) h.sz,h.sz,hb.set c v⟩,s1,(StayR.none g1).trans s1⟩
theorem Row.strs_keep {w w':World} {v:Value} {l:List ByteArray} {b:Nat} {cs:Array Value} (h:Row w v (strs l)) (hz:Blk w b cs) (hg:w.grownBy w' (some b)) (hn:∀ u∈cs.toList,∀ t,u≠.string t):Row w' v (strs l):=by
 refine h.grown hg fun b' o i c hi hc hcs e=>?_
 injection e with e
 subst e
 rw [hz.cell o] at hc
 have hm:c∈cs.toList:=by
  obtain ⟨ho,hv⟩:=Array.getElem?_eq_some_iff.1 hc
  rw [←hv];simp
 have:∃ t,c=.string t:=by
  have hm2:=List.mem_of_getElem? hcs
  unfold strs at hm2
  obtain ⟨t,_,rfl⟩:=List.mem_map.1 hm2
  exact ⟨t,rfl⟩
 obtain ⟨t,rfl⟩:=this
 exact hn _ hm t rfl
end
section
open Go.RowKit
def segs:List UInt8→List UInt8→List (List UInt8)
 | cur,[]=>[cur]
 | cur,b::l=>if b=46 then cur::segs [] l else segs (cur++[b]) l
theorem Jf:∀ (l cur:List UInt8),(segs cur l).length=Lib.count l [46]+1
 | [],cur=>rfl
 | b::l,cur=>by
  unfold segs
  by_cases h:b=46
  ·subst h
   rw [if_pos rfl,Lib.count_cons_eq,List.length_cons,Jf l []];omega
  ·rw [if_neg h,Lib.count_cons_ne _ _ _ h,Jf l _]
theorem Kh:∀ (l cur:List UInt8),∃ x r,Lib.splitK [46] 0 (Lib.count l [46]) l=x::r∧segs cur l=(cur++x)::r
 | [],cur=>⟨[],[],rfl,by simp [segs]⟩
 | b::l,cur=>by
  by_cases h:b=46
  ·subst h
   obtain ⟨x,r,e1,e2⟩:=Kh l []
   refine ⟨[],x::r,?_,?_⟩
   ·rw [Lib.count_cons_eq,Nat.add_comm 1]
    unfold Lib.splitK
    have hi:Lib.index (46::l) [46]=0:=by simp [Lib.index,List.isPrefixOf]
    rw [hi]
    simp [e1]
   ·unfold segs
    rw [if_pos rfl,e2];simp
  ·obtain ⟨x,r,e1,e2⟩:=Kh l (cur++[b])
   rw [Lib.count_cons_ne _ _ _ h]
   unfold segs
   rw [if_neg h,e2]
   cases hc:Lib.count l [46] with
   | zero =>
    rw [hc] at e1
    injection e1 with e3 e4
    exact ⟨b::l,[],rfl,by rw [←e3,←e4];simp⟩
   | succ k =>
    rw [hc] at e1
    have hne:Lib.index l [46]≠-1:=fun h1=>by rw [Lib.count_miss h1] at hc;cases hc
    have hge:=Lib.index_ge l [46]
    have hi:Lib.index (b::l) [46]=Lib.index l [46]+1:=by
     rw [Lib.index,if_neg (by simp [List.isPrefixOf,beq_iff_eq];exact fun e=>h e.symm),if_neg (by simpa using hne)]
    unfold Lib.splitK at e1 ⊢
    rw [if_neg (by simpa using hne)] at e1
    rw [hi,if_neg (by simp;omega)]
    injection e1 with e3 e4
    obtain ⟨i,hi'⟩:∃ i:Nat,Lib.index l [46]=i:=⟨(Lib.index l [46]).toNat,by omega⟩
    rw [hi'] at e3 e4 ⊢
    have t1:((i:Int)+1).toNat=i+1:=by omega
    have t2:((i:Int)).toNat=i:=by omega
    rw [t2] at e3 e4
    refine ⟨b::x,r,?_,by simp⟩
    rw [t1,←e3,←e4]
    simp [List.drop_succ_cons]
theorem Si (s:ByteArray):D3 s=(decide ((segs [] s.data.toList).length≤9)&&(segs [] s.data.toList).all D9):=by
 unfold D3
 obtain ⟨x,r,e1,e2⟩:=Kh s.data.toList []
 have h:=Lib.splitB_data dot 0 (Lib.countB s dot) s
 have hd:dot.data.toList=[46]:=rfl
 rw [Jf]
 have e3:segs [] s.data.toList=(Lib.splitB dot 0 (Lib.countB s dot) s).map (·.data.toList):=by
  rw [h,e2,hd]
  show []++x::r=_
  rw [List.nil_append]
  exact e1.symm
 rw [e3,List.all_map]
 rfl
end
section
open Go.RowKit
set_option maxRecDepth 100000 in
theorem Mb (w:World) (s:ByteArray) (hs:s.size≤4611686018427387904) :
  Calls Tryz.prog 137 #[.string s] w fun e w'=>e=.returned (.bool (D9 s.data.toList))∧w.grownBy w' none:=by
 obtain ⟨D,hD⟩:∃ D,D9 s.data.toList=D:=⟨_,rfl⟩
 rw [hD]
 have HD:=Ac hD
 have hlen:s.data.toList.length=s.size:=rfl
 have HL:=Ac hlen
 have hu:=Tryz.underlying9
 have hix:∀ k:Nat,k<s.size→∀ W,(Instr.index 9 (.string s) (.int .i64 (k:Int))).run Tryz.prog W=.ok (.int .u8 ((s.data.toList.getD k 0).toNat:Int)) W:=by
  intro k hk W
  rw [run_index_string W 9 s .i64 (k:Int) hu,dif_pos ⟨by omega,by omega⟩]
  have e:s[(k:Int).toNat]'(by omega)=s.data.toList.getD k 0:=by
   simp only [Int.toNat_natCast]
   rw [List.getD_eq_getElem?_getD,List.getElem?_eq_getElem (by rw [HL.out];exact hk)]
   rfl
  rw [e]
 clear hD hlen
 generalize hn:s.size=n at *
 go_enter Tryz.func137,Tryz.ntmps137
 go_wp2_with fail
 go_loopw [3] (fun i wr=>∃ k:Nat,k≤n∧i=.int .i64 k∧wr=w∧Hid (∀ j,j<k→De (s.data.toList.getD j 0).toNat=true)) (fun i _=>(n-intOf i).toNat)
 case atStart=>exact ⟨0,by omega,rfl,rfl,Ac (fun j hj=>by omega)⟩
 case round =>
  obtain ⟨k,hk,rfl,rfl,hb⟩:=hrel
  by_cases hlt:k<n
  ·have hc:=hix k hlt
   have hc8:(s.data.toList.getD k 0).toNat<256:=(s.data.toList.getD k 0).toNat_lt
   clear hix
   generalize hx:(s.data.toList.getD k 0).toNat=x at *
   have HX:=Ac hx
   clear hx
   by_cases hnb:De x=true
   ·have HNB:=Ac hnb
    have hnb':(97≤x∧x≤122)∨(48≤x∧x≤57)∨x=95:=by simpa [De,or_assoc] using hnb
    clear hnb
    go_wp2
    all_goals first
     | exact ⟨⟨k+1,by omega,Bl (by omega),trivial,Ac (fun j hj=>by
       by_cases hjk:j=k
       ·subst hjk;rw [HX.out];exact HNB.out
       ·exact hb.out j (by omega))⟩,by simp [intOf];omega⟩
     | (exfalso;simp at *;omega)
   ·have hnb':¬ ((97≤x∧x≤122)∨(48≤x∧x≤57)∨x=95):=fun h=>hnb (by simpa [De,or_assoc] using h)
    have HF:Hid (D=false):=Ac (by
     have hf:(s.data.toList.all fun b=>De b.toNat)=false:=by
      rw [List.all_eq_false]
      have hkl:k<s.data.toList.length:=by rw [HL.out];exact hlt
      refine ⟨s.data.toList[k],List.getElem_mem _,?_⟩
      have:s.data.toList.getD k 0=s.data.toList[k]:=by simp only [List.getD,List.getElem?_eq_getElem hkl,Option.getD_some]
      rw [←this,HX.out]
      exact hnb
     rw [←HD.out];unfold D9;rw [hf,Bool.and_false])
    clear hnb
    go_wp2
    all_goals first
     | (go_ret;rw [HF.out];exact ⟨rfl,Al _ _⟩)
     | (exfalso;simp at *;omega)
  ·obtain rfl:k=n:=by omega
   have HT:Hid (D=(decide (1≤k)&&decide (k≤16))):=Ac (by
    have ht:(s.data.toList.all fun b=>De b.toNat)=true:=by
     rw [List.all_eq_true]
     intro b hbm
     obtain ⟨j,hj,rfl⟩:=List.mem_iff_getElem.1 hbm
     have:=hb.out j (by have:=HL.out;omega)
     rwa [show s.data.toList.getD j 0=s.data.toList[j] by simp only [List.getD,List.getElem?_eq_getElem hj,Option.getD_some]] at this
    rw [←HD.out];unfold D9;rw [ht,HL.out,Bool.and_true])
   clear hb
   go_wp2
   all_goals
    go_ret
    exact ⟨Ao (by rw [HT.out,Bool.eq_iff_iff];simp;try omega),Al _ _⟩
end
section
open Go.RowKit
theorem Row.str_at {w:World} {A:Option Addr} {n c:Nat} {l:List ByteArray} (h:Row w (.slice A n c) (strs l)) {i:Nat} (hi:i<l.length) :
  ∃ b o,A=some ⟨b,o,none⟩∧w.cell? ⟨b,o+i,none⟩=some (.string (l.getD i default)):=by
 rcases h.open with ⟨b,o,c',e,l1,l2,hc⟩ | ⟨_,_,_,_,_,h0⟩
 ·injection e with e1 e2 e3
  exact ⟨b,o,e1,(hc i (by rw [Bt];exact hi)).trans (I2 l i hi)⟩
 ·have:=congrArg List.length h0;rw [Bt] at this;exact absurd (show l.length=0 from this) (by omega)
def Sb (s:ByteArray) (l:List ByteArray):Bool:=l.any fun x=>decide (x=s)
theorem Jm {s:ByteArray} {l:List ByteArray}:Sb s l=true↔s∈l:=by
 unfold Sb
 rw [List.any_eq_true]
 exact ⟨fun ⟨x,h1,h2⟩=>by rw [←of_decide_eq_true h2];exact h1,fun h=>⟨s,h,by simp⟩⟩
theorem A13 {a b:ByteArray} (h:a.toList=b.toList):a=b:=by
 rw [Lib.toList_data,Lib.toList_data] at h
 exact ByteArray.ext (Array.toList_inj.1 h)
set_option maxRecDepth 100000 in
theorem Rh (w:World) (s:ByteArray) (v:Value) (l:List ByteArray) (hr:Row w v (strs l)) :
  Calls Tryz.prog 138 #[.string s,v] w fun e w'=>e=.returned (.bool (Sb s l))∧w.grownBy w' none:=by
 obtain ⟨D,hD⟩:∃ D,Sb s l=D:=⟨_,rfl⟩
 rw [hD]
 have HD:=Ac hD
 clear hD
 have HR:=Ac hr
 obtain ⟨A,c,rfl,h1,h2,_⟩:=hr
 rw [Bt] at *
 go_enter Tryz.func138,Tryz.ntmps138
 go_wp2_with fail
 go_loopw [5] (fun i wr=>∃ k:Nat,k≤l.length∧i=.int .i64 k∧w=wr∧Hid (∀ t,t<k→l.getD t default≠s)) (fun i _=>(l.length-intOf i).toNat)
 case atStart=>exact ⟨0,by omega,rfl,rfl,Ac (fun t ht=>by omega)⟩
 case round =>
  obtain ⟨k,hk,rfl,rfl,hb⟩:=hrel
  by_cases hlt:k<l.length
  ·obtain ⟨b,o,rfl,u⟩:=HR.out.str_at hlt
   generalize hx:l.getD k default=x at *
   have HX:=Ac hx
   clear hx
   by_cases hxs:x=s
   ·have t:(x.toList==s.toList)=true:=by rw [hxs];simp
    have HT:Hid (D=true):=Ac (by
     rw [←HD.out,Jm,←hxs,←HX.out]
     rw [show l.getD k default=l[k] by simp [List.getD,List.getElem?_eq_getElem hlt]]
     exact List.getElem_mem _)
    clear hxs
    go_wp2_with fail
    go_ret
    exact ⟨by rw [HT.out];rfl,Al _ _⟩
   ·have t:(x.toList==s.toList)=false:=by rw [beq_eq_false_iff_ne];exact fun h=>hxs (A13 h)
    have HXS:=Ac hxs
    clear hxs
    go_wp2_with fail
    exact ⟨⟨k+1,by omega,Bl (by omega),trivial,Ac (fun t ht=>by
     by_cases htk:t=k
     ·subst htk;rw [HX.out];exact HXS.out
     ·exact hb.out t (by omega))⟩,by simp [intOf];omega⟩
  ·have HF:Hid (D=false):=Ac (by
    rw [←HD.out,Bool.eq_false_iff,ne_eq,Jm]
    intro hm
    obtain ⟨j,hj,e⟩:=List.mem_iff_getElem.1 hm
    exact hb.out j (by omega) (by rw [show l.getD j default=l[j] by simp [List.getD,List.getElem?_eq_getElem hj]];exact e))
   have hge:¬ (k:Int)<(l.length:Int):=by omega
   clear hb
   go_wp2_with fail
   go_ret
   exact ⟨by rw [HF.out];rfl,Al _ _⟩
theorem Xo (l:List ByteArray) (k:Nat):(strs l).take k=strs (l.take k):=by simp [strs]
theorem O3 {l:List ByteArray} {k:Nat} (hk:k<l.length) (h:(l.take k).Nodup):(l.take (k+1)).Nodup↔l.getD k default∉l.take k:=by
 have e:l.take (k+1)=l.take k++[l.getD k default]:=by
  rw [List.take_succ_eq_append_getElem hk];simp [List.getD,List.getElem?_eq_getElem hk]
 rw [e,List.nodup_append]
 constructor
 ·intro hh hm;exact absurd rfl (hh.2.2 _ hm _ (by simp))
 ·intro hh
  refine ⟨h,by simp,fun a ha b hb e=>?_⟩
  simp at hb
  subst hb;subst e
  exact hh ha
set_option maxRecDepth 100000 in
theorem Ko (w:World) (v:Value) (l:List ByteArray) (hr:Row w v (strs l)) :
    Calls Tryz.prog 82 #[v] w fun e w'=>e=.returned (.bool (decide (¬ l.Nodup)))∧w.grownBy w' none:=by
  obtain ⟨D,hD⟩:∃ D,decide (¬ l.Nodup)=D:=⟨_,rfl⟩
  rw [hD]
  have HD:=Ac hD
  clear hD
  have HR:=Ac hr
  obtain ⟨A,c,rfl,h1,h2,_⟩:=hr
  rw [Bt] at *
  go_enter Tryz.func82,Tryz.ntmps82
  go_wp2_with fail
  go_loopw [3] (fun i wr=>∃ k:Nat,k≤l.length∧i=.int .i64 k∧w.grownBy wr none∧Hid ((l.take k).Nodup)) (fun i _=>(l.length-intOf i).toNat)
  case atStart=>exact ⟨0,by omega,rfl,Al _ _,Ac (by simp)⟩
  case round =>
    obtain ⟨k,hk,rfl,hg,hb⟩:=hrel
    by_cases hlt:k<l.length
    · have HRR:=Ac (HR.out.more hg)
      obtain ⟨b,o,rfl,u⟩:=HRR.out.str_at hlt
      generalize hx:l.getD k default=x at *
      have HX:=Ac hx
      clear hx
      obtain ⟨X,hX⟩:∃ X,Sb x (l.take k)=X:=⟨_,rfl⟩
      have HC:=Ac (fun p=>by
        have h:=Rh (gr wr p) x _ (l.take k) (by rw [←Xo];exact (HRR.out.more (Bc _ p)).take k (by rw [Bt];omega))
        rw [hX] at h;exact h)
      have HXX:=Ac hX
      have U:=fun p=>B8 u p
      have HG:=Ac hg
      have hkc:k≤c:=by omega
      clear hX hg u
      go_wp2_with fail
      (refine Bq (by kernel_rfl) (by kernel_rfl) ?_
       repeat (go_big_quiet_step ((go_at_call 138;exact Dc (HC.out _))))
       refine wpQuiet_nil ?_
       intro _ hw'
       obtain ⟨pq,hw''⟩:=hw'
       subst hw'')
      have hgq:=Bc wr pq
      generalize gr wr pq=wq at *
      cases X with
      | true =>
        have HT:Hid (D=true):=Ac (by
          rw [←HD.out,decide_eq_true_iff]
          intro hn
          have h2:(l.take (k+1)).Nodup:=hn.sublist (List.take_sublist _ _)
          rw [O3 hlt hb.out,HX.out] at h2
          exact h2 (Jm.1 HXX.out))
        go_wp2_with fail
        go_ret
        exact ⟨by rw [HT.out];rfl,Ae HG.out hgq⟩
      | false =>
        have HB:Hid ((l.take (k+1)).Nodup):=Ac (by rw [O3 hlt hb.out,HX.out];exact fun h=>by have:=Jm.2 h;rw [HXX.out] at this;cases this)
        go_wp2_with fail
        exact ⟨⟨k+1,by omega,Bl (by omega),Ae HG.out hgq,HB⟩,by simp [intOf];omega⟩
    · have HF:Hid (D=false):=Ac (by
        rw [←HD.out,decide_eq_false_iff_not,Classical.not_not]
        have:=hb.out
        rwa [List.take_of_length_le (by omega)] at this)
      have hge:¬ (k:Int)<(l.length:Int):=by omega
      clear hb
      go_wp2_with fail
      go_ret
      exact ⟨by rw [HF.out];rfl,hg⟩
theorem Zy (cur:List UInt8):segs cur []=[cur]:=rfl
theorem Zx (cur l:List UInt8):segs cur (46::l)=cur::segs [] l:=by rw [segs,if_pos rfl]
theorem V4 (cur l:List UInt8) {b:UInt8} (h:b≠46):segs cur (b::l)=segs (cur++[b]) l:=by rw [segs,if_neg h]
theorem A0d {l:List UInt8} {i:Nat} (h:i<l.length):l.drop i=l.getD i 0::l.drop (i+1):=by
 rw [List.drop_eq_getElem_cons h];simp [List.getD,List.getElem?_eq_getElem h]
theorem Xr {l:List UInt8} {f i:Nat} (hf:f≤i) (h:i<l.length):(l.drop f).take (i+1-f)=(l.drop f).take (i-f)++[l.getD i 0]:=by
 rw [show i+1-f=i-f+1 by omega,List.take_succ_eq_append_getElem (by rw [List.length_drop];omega)]
 congr 2
 rw [List.getElem_drop]
 simp [List.getD,List.getElem?_eq_getElem h,show f+(i-f)=i by omega]
def A1r (l:List UInt8) (i p f:Nat):Prop :=
 (i≤l.length∧f≤i∧∃ done,segs [] l=done++segs ((l.drop f).take (i-f)) (l.drop i)∧done.length=p∧done.all D9=true)∨(i=l.length+1∧(segs [] l).length=p∧(segs [] l).all D9=true)
set_option maxRecDepth 100000 in
theorem Ma (w:World) (s:ByteArray) (hs:s.size≤4611686018427387903) :
  Calls Tryz.prog 81 #[.string s] w fun e w'=>e=.returned (.bool (D3 s))∧w.grownBy w' none:=by
 rw [Si]
 have hlen:s.data.toList.length=s.size:=rfl
 have HL:=Ac hlen
 have HSZ:=Ac hs
 obtain ⟨D,hD⟩:∃ D,(decide ((segs [] s.data.toList).length≤9)&&(segs [] s.data.toList).all D9)=D:=⟨_,rfl⟩
 rw [hD]
 have HD:=Ac hD
 clear hD hlen
 generalize hn:s.size=n at *
 have HN:=Ac hn
 go_enter Tryz.func81,Tryz.ntmps81
 go_wp2_with fail
 go_loopw [3,4,5] (fun pv fv iv wr=>∃ i p f:Nat,iv=.int .i64 i∧pv=.int .i64 p∧fv=.int .i64 f∧Hid (i≤n+1∧f≤n+1∧p≤i∧A1r s.data.toList i p f)∧w.grownBy wr none) (fun _ _ iv _=>(n+1-intOf iv).toNat)
 case atStart=>exact ⟨0,0,0,rfl,rfl,rfl,Ac ⟨by omega,by omega,by omega,.inl ⟨by omega,by omega,[],by simp,rfl,rfl⟩⟩,Al _ _⟩
 case round =>
  obtain ⟨i,p,f,rfl,rfl,rfl,hst,hg⟩:=hrel
  obtain ⟨b1,b2,b3,hat⟩:=hst.out
  clear hst
  by_cases hlt:i≤n
  ·have hA:=hat.resolve_right (fun h=>by have:=HL.out;omega)
   obtain ⟨_,hfi,done,hseg,hdl,hda⟩:=hA
   have HSEG:=Ac hseg
   have HDL:=Ac hdl
   have HDA:=Ac hda
   clear hat hseg hdl hda
   have hcur:(s.extract f i).data.toList=(s.data.toList.drop f).take (i-f):=Lib.extract_data s f i
   have hcz:(s.extract f i).size≤4611686018427387904:=by
    have h1:(s.extract f i).data.toList.length≤s.data.toList.length:=by rw [hcur,List.length_take,List.length_drop];omega
    have h2:(s.extract f i).data.toList.length=(s.extract f i).size:=rfl
    have:=HL.out;have:=HSZ.out
    omega
   have HC:=Ac (Mb wr (s.extract f i) hcz)
   rw [hcur] at HC
   obtain ⟨X,hX⟩:∃ X,D9 ((s.data.toList.drop f).take (i-f))=X:=⟨_,rfl⟩
   rw [hX] at HC
   have HX:=Ac hX
   have HG:=Ac hg
   have f1:(f:Int)≤(i:Int):=by omega
   have f2:(i:Int)≤(n:Int):=by omega
   have f3:(0:Int)≤(f:Int):=by omega
   have hsz:=HSZ.out
   clear hcur hcz hX hg
   by_cases hin:i=n
   ·as_aux_lemma =>
     have t0:((i:Int)==(n:Int))=true:=by rw [hin];simp
     have HT:Hid (segs [] s.data.toList=done++[(s.data.toList.drop f).take (i-f)]):=Ac (by rw [HSEG.out,(show s.data.toList.drop i=[] from List.drop_of_length_le (by have:=HL.out;omega)),Zy])
     have HIN:=Ac hin
     clear hin
     go_wp2_with fail
     refine HC.out.mono ?_
     rintro e w1 ⟨rfl,hg1⟩
     cases X with
     | false =>
      have HF:Hid (D=false):=Ac (by rw [←HD.out,HT.out,List.all_append];simp [HX.out])
      go_wp2_with fail
      go_ret
      exact ⟨by rw [HF.out];rfl,Ae HG.out hg1⟩
     | true =>
      go_wp2_with fail
      exact ⟨⟨i+1,p+1,i+1,Bl (by omega),Bl (by omega),Bl (by omega),Ac ⟨by omega,by omega,by omega,.inr ⟨by have:=HL.out;have:=HIN.out;omega,by rw [HT.out,List.length_append,HDL.out];rfl,by rw [HT.out,List.all_append,HDA.out];simp [HX.out]⟩⟩,Ae HG.out hg1⟩,by simp [intOf];omega⟩
   ·have t0:((i:Int)==(n:Int))=false:=by rw [beq_eq_false_iff_ne];omega
    have hil:i<s.data.toList.length:=by have:=HL.out;omega
    have hb:i<s.size:=by omega
    have hsx:s[i]'hb=s.data.toList.getD i 0:=by
     rw [List.getD_eq_getElem?_getD,List.getElem?_eq_getElem hil]
     rfl
    have hd:=A0d hil
    have ht:=Xr hfi hil
    generalize hx:s.data.toList.getD i 0=x at *
    have HDX:=Ac hd
    have HTX:=Ac ht
    clear hd ht hx
    have f4:(i:Int)<(n:Int):=by omega
    by_cases hx:x=46
    ·as_aux_lemma =>
      have t1:(((s[i]'hb).toNat:Int)==46)=true:=by rw [hsx,hx];rfl
      clear hsx
      subst hx
      have HT:Hid (segs [] s.data.toList=(done++[(s.data.toList.drop f).take (i-f)])++segs [] (s.data.toList.drop (i+1))):=Ac (by rw [HSEG.out,HDX.out,Zx,List.append_assoc];rfl)
      go_wp2_with fail
      refine HC.out.mono ?_
      rintro e w1 ⟨rfl,hg1⟩
      cases X with
      | false =>
       have HF:Hid (D=false):=Ac (by rw [←HD.out,HT.out,List.all_append,List.all_append];simp [HX.out])
       go_wp2_with fail
       go_ret
       exact ⟨by rw [HF.out];rfl,Ae HG.out hg1⟩
      | true =>
       go_wp2_with fail
       exact ⟨⟨i+1,p+1,i+1,Bl (by omega),Bl (by omega),Bl (by omega),Ac ⟨by omega,by omega,by omega,.inl ⟨by omega,by omega,done++[(s.data.toList.drop f).take (i-f)],by rw [HT.out,Nat.sub_self,List.take_zero],by rw [List.length_append,HDL.out];rfl,by rw [List.all_append,HDA.out];simp [HX.out]⟩⟩,Ae HG.out hg1⟩,by simp [intOf];omega⟩
    ·as_aux_lemma =>
      have t1:(((s[i]'hb).toNat:Int)==46)=false:=by
       rw [hsx,beq_eq_false_iff_ne]
       intro h
       exact hx (UInt8.toNat.inj (show x.toNat=(46:UInt8).toNat from by have:(46:UInt8).toNat=46:=rfl;omega))
      have HT:Hid (segs [] s.data.toList=done++segs ((s.data.toList.drop f).take (i+1-f)) (s.data.toList.drop (i+1))):=Ac (by rw [HSEG.out,HDX.out,V4 _ _ hx,HTX.out])
      clear hx hsx
      go_wp2_with fail
      exact ⟨⟨i+1,p,f,Bl (by omega),rfl,rfl,Ac ⟨by omega,by omega,by omega,.inl ⟨by omega,by omega,done,HT.out,HDL.out,HDA.out⟩⟩,HG.out⟩,by simp [intOf];omega⟩
  ·have hA:=hat.resolve_left (fun h=>by have:=HL.out;have:=h.1;omega)
   have HF:Hid (D=decide (p≤9)):=Ac (by rw [←HD.out,hA.2.1,hA.2.2,Bool.and_true])
   have hge:¬ (i:Int)≤(n:Int):=by omega
   clear hA hat
   go_wp2_with fail
   go_ret
   exact ⟨Ao (by rw [HF.out,Bool.eq_iff_iff];simp;try omega),hg⟩
end
end Go.Proofs.YtmfmfpmkgmkgiaaGreatDoor
