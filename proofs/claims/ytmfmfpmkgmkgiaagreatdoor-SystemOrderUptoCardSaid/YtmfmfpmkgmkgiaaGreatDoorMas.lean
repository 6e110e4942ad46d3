/- CpyB StG StH ModE. -/
import Derived.Test.YtmfmfpmkgmkgiaaGreatDoorMar
import Derived.Deep.RegionLaw
import Derived.Test.YtmfmfpmkgmkgiaaGreatDoorMak
import Derived.Test.YtmfmfpmkgmkgiaaGreatDoorMal
import Derived.Test.YtmfmfpmkgmkgiaaGreatDoorMaf
set_option linter.unusedVariables false
set_option linter.unusedSimpArgs false
set_option maxHeartbeats 40000000
namespace Go.Proofs.YtmfmfpmkgmkgiaaGreatDoor
section
open Go.RowKit Go.Maps
theorem Io {P:Program} {W:World} {ops:Array Oper} {o:Oper} {a:Act} {K:Act→World→Prop} {Q:Exit→Act→World→Prop} {E:Prop} (hgd:o.guard=none) (s x:Operand) (t:TypeId)
  (ho:o.op=.call { callee:=.builtin .append,args:=#[s,x],argTypes:=#[t,t] })
  (base:Nat) (e:TypeId) (z:Value) (size bytes:Nat)
  (ht:P.underlying t=some (.slice e)) (hinfo:(P.info? e).map (fun i=>(i.zero,i.size,i.bytes))=some (some z,size,bytes)) (hz:z.cells.size=size) (hsz:0<size) (hb0:0<bytes)
  (v:Value) (n:Nat) (xs:List Value) (hs:a.eval s=v) (HO:W.ownsRow base e size v n xs)
  (A:Option Addr) (m c:Nat) (news:List Value) (hx:a.eval x=.slice A m c) (hl:news.length=m*size)
  (hread:0<m→∃ b o,A=some ⟨b,o,none⟩∧∀ j,j<m*size→W.cell? ⟨b,o+j,none⟩=news[j]?) (hA:A=none∨∃ a,A=some a) (h1:∀ u∈news,u.oneCell'=true)
  (hbytes:(n+m)*bytes≤140737488355328) (hbase:base≤W.heap.size)
  (h:∀ v1 w1,w1.ownsRow base e size v1 (n+m) (xs++news)→W.grownBy w1 v.ownBlock→(v1.ownBlock=v.ownBlock∨v1.ownBlock=some W.heap.size)→K (a.put o.dst v1) w1) :
  if Region.wanted o (yielded ops a.tmps)=true then Oper.wp P o a W K Q else E:=by
 have hw:Region.wanted o (yielded ops a.tmps)=true:=by simp [Region.wanted,hgd]
 rw [if_pos hw]
 obtain ⟨i0,hi,hzz⟩:=Option.map_eq_some_iff.1 hinfo
 simp only [Prod.mk.injEq] at hzz
 obtain ⟨hz0,hz1,hz2⟩:=hzz
 have hlen:n+m≤140737488355328:=Nat.le_trans (Nat.le_mul_of_pos_right _ hb0) hbytes
 have hrun:∃ v1 w1,(Builtin.append_ #[t,t] o.type #[v,.slice A m c]).run P W=.ok v1 w1∧w1.ownsRow base e size v1 (n+m) (xs++news)∧W.grownBy w1 v.ownBlock∧(v1.ownBlock=v.ownBlock∨v1.ownBlock=some W.heap.size):=by
  rcases hA with rfl | ⟨ad,rfl⟩
  ·have h0:m=0:=by
    rcases Nat.eq_zero_or_pos m with h0 | h0
    ·exact h0
    ·obtain ⟨b,o,h,_⟩:=hread h0
     cases h
   subst h0
   obtain rfl:news=[]:=List.eq_nil_of_length_eq_zero (by simpa using hl)
   refine ⟨v,W,?_,by simpa using HO,World.grownBy.refl W _,.inl rfl⟩
   rcases HO.2 with ⟨rfl,hn⟩ | ⟨g,cap,cur,rfl,_,_,hnc,_⟩
   ·simp [Builtin.append_,run_underlying ht,sizeOf,typeInfo,hi,Builtin.lenOf,Builtin.firstCells]
   ·simp [Builtin.append_,run_underlying ht,sizeOf,typeInfo,hi,Builtin.lenOf,Builtin.firstCells,hnc,storeCells]
  ·have hcells:∀ j u,news[j]? = some u→W.cell? (ad.add j)=some u:=by
    intro j u hu
    have hj:j<news.length:=(List.getElem?_eq_some_iff.1 hu).1
    obtain ⟨b',o',h',hc⟩:=hread (by
     rcases Nat.eq_zero_or_pos m with h0 | h0
     ·subst h0;simp at hl;simp [hl] at hj
     ·exact h0)
    injection h' with h'
    subst h'
    have:=hc j (by omega)
    rw [hu] at this
    have e:(⟨b',o',none⟩:Addr).add j=⟨b',o'+j,none⟩:=by unfold Addr.add;split<;>simp_all
    rwa [e]
   obtain ⟨v1,w1,hr,h2,h3,_,h5⟩:=run_append_own_at (P:=P) W base t o.type e i0 z size bytes ht hi hz0 hz1 hz2 hz hsz v n xs HO ad m c news hl hcells h1 (by simp only [maxLen];omega) hbytes hbase
   exact ⟨v1,w1,hr,h2,h3,h5⟩
 obtain ⟨v1,w1,hr,hown,hg,hat⟩:=hrun
 unfold Oper.wp execOp
 simp only [ho,resolve,invoke,builtin,Sem.run_bind,Sem.run_pure,Result.andThen_ok,List.map_toArray,List.map_cons,List.map_nil,hs,hx,hr]
 exact h v1 w1 hown hg hat
theorem L6 (w:World) (b:Nat) (x0 x1 x2 x3 x4:Value):w.grownBy (((((w.setCell ⟨b,0,none⟩ x0).setCell ⟨b,1,none⟩ x1).setCell ⟨b,2,none⟩ x2).setCell ⟨b,3,none⟩ x3).setCell ⟨b,4,none⟩ x4) (some b) :=
 Ae (Ae (Ae (Ae (Au _ _ _ _) (Au _ _ _ _)) (Au _ _ _ _)) (Au _ _ _ _)) (Au _ _ _ _)
theorem Po {w:World} {s b:Nat} {v0 v2 v3 v4:Value} (h:w.cell? ⟨s,0,none⟩=some v0∧w.cell? ⟨s,2,none⟩=some v2∧w.cell? ⟨s,3,none⟩=some v3∧w.cell? ⟨s,4,none⟩=some v4) (x0 x1 x2 x3 x4:Value) (hn:s≠b) :
  (((((w.setCell ⟨b,0,none⟩ x0).setCell ⟨b,1,none⟩ x1).setCell ⟨b,2,none⟩ x2).setCell ⟨b,3,none⟩ x3).setCell ⟨b,4,none⟩ x4).cell? ⟨s,0,none⟩=some v0∧(((((w.setCell ⟨b,0,none⟩ x0).setCell ⟨b,1,none⟩ x1).setCell ⟨b,2,none⟩ x2).setCell ⟨b,3,none⟩ x3).setCell ⟨b,4,none⟩ x4).cell? ⟨s,2,none⟩=some v2∧(((((w.setCell ⟨b,0,none⟩ x0).setCell ⟨b,1,none⟩ x1).setCell ⟨b,2,none⟩ x2).setCell ⟨b,3,none⟩ x3).setCell ⟨b,4,none⟩ x4).cell? ⟨s,3,none⟩=some v3∧(((((w.setCell ⟨b,0,none⟩ x0).setCell ⟨b,1,none⟩ x1).setCell ⟨b,2,none⟩ x2).setCell ⟨b,3,none⟩ x3).setCell ⟨b,4,none⟩ x4).cell? ⟨s,4,none⟩=some v4:=by
 obtain ⟨h0,h2,h3,h4⟩:=h
 have g:=L6 w b x0 x1 x2 x3 x4
 exact ⟨Aj g h0 (by simpa using hn),Aj g h2 (by simpa using hn),Aj g h3 (by simpa using hn),Aj g h4 (by simpa using hn)⟩
theorem Zd (w:World) (cs:Array Value) (T e:TypeId):((w.alloc (.cells cs T)).alloc (.cells #[] e)).ownsRow w.heap.size e 1 (.slice (some ⟨w.heap.size+1,0,none⟩) 0 0) 0 []:=by
 have h:=World.ownsRow_lit (base:=w.heap.size) (e:=e) (size:=1) (w.alloc (.cells cs T)) #[] 0 (by simp) (by decide) rfl
 rw [World.size_alloc] at h
 exact h
theorem Zj {w:World} {base:Nat} {e:TypeId} {size n:Nat} {v:Value} {xs:List Value} (h:w.ownsRow base e size v n xs):∀ b,v.ownBlock=some b→base≤b∧b<w.heap.size:=by
 intro b hb
 rcases h.2 with ⟨rfl,_⟩ | ⟨g,cap,cur,rfl,h1,h2,_⟩
 ·simp [Value.ownBlock] at hb
 ·obtain rfl:g=b:=by simpa [Value.ownBlock] using hb
  exact ⟨h1,by obtain ⟨h3,_⟩:=Array.getElem?_eq_some_iff.1 h2;exact h3⟩
theorem DevsW.other {w w':World} {base:Nat} {e:TypeId} {v:Value} {L:List DevP} {r:Nat} (h:DevsW w base e v L) (hg:w.grownBy w' (some r)) (hs:Soft w r) (hne:v.ownBlock≠some r):DevsW w' base e v L:=by
 obtain ⟨n,xs,h,hi⟩:=h
 exact ⟨n,xs,h.other hg hne,hi.imp fun _ _ hr=>hr.step (StayR.row hg hs)⟩
theorem F5 {w:World} {base:Nat} {e:TypeId} {size n:Nat} {v:Value} {xs:List Value} (h:w.ownsRow base e size v n xs):∃ A c,v=.slice A n c:=by
 rcases h.2 with ⟨rfl,h0⟩ | ⟨g,cap,cur,rfl,_⟩
 ·exact ⟨none,0,by rw [h0]⟩
 ·exact ⟨_,_,rfl⟩
theorem Row.srcs {w:World} {A:Option Addr} {n c:Nat} {cs:List Value} (h:Row w (.slice A n c) cs) (hp:0<n):∃ b o,A=some ⟨b,o,none⟩∧∀ j,j<n*1→w.cell? ⟨b,o+j,none⟩=cs[j]?:=by
 rcases h.open with ⟨b,o,c',e,_,_,hc⟩ | ⟨_,_,e,_,_,h0⟩
 ·injection e with e1 e2 e3
  exact ⟨b,o,e1,fun j hj=>hc j (by omega)⟩
 ·injection e with e1 e2 e3
  omega
theorem Qv:(Tryz.prog.info? 25).map (fun i=>(i.zero,i.size,i.bytes))=some (some (.agg #[.int .i64 0,.int .i64 0]),2,16):=by kernel_rfl
theorem A0c:(Tryz.prog.info? 89).map (fun i=>(i.zero,i.size,i.bytes))=some (some (.agg #[.int .u8 0,.string ByteArray.empty,.slice none 0 0,.int .i64 0,.int .i64 0,.int .i64 0,.int .i64 0,.slice none 0 0,.slice none 0 0,.string ByteArray.empty,.int .u8 0,.slice none 0 0,.slice none 0 0]),13,200):=by kernel_rfl
theorem IntRow.srci {w:World} {A:Option Addr} {n c:Nat} {l:List Int} (h:IntRow w (.slice A n c) l) (hp:0<l.length):∃ b o,A=some ⟨b,o,none⟩∧∀ j,j<l.length*1→w.cell? ⟨b,o+j,none⟩=(ints l)[j]?:=by
 obtain ⟨b,o,rfl,hc⟩:=h.cells hp
 exact ⟨b,o,rfl,fun j hj=>by rw [J5 _ _ (by omega)];exact hc j (by omega)⟩
theorem S6:NoD (Value.agg #[.int .u8 0,.string ByteArray.empty,.slice none 0 0,.int .i64 0,.int .i64 0,.int .i64 0,.int .i64 0,.slice none 0 0,.slice none 0 0,.string ByteArray.empty,.int .u8 0,.slice none 0 0,.slice none 0 0]).cells.toList:=by
 intro u hu n
 simp [Value.cells] at hu
 rcases hu with rfl | rfl | rfl | rfl | rfl | rfl | rfl | rfl<;>simp
theorem Yc (K:Int) (nm:ByteArray) (rf v1 v2 wk:Int) (mn:ByteArray) (mk:Int) (A1 A2 A3 A4 A5:Option Addr) (n1 n2 n3 n4 n5 k1 k2 k3 k4 k5:Nat) (W:World) :
  (Instr.buildSlice 23 1 #[(0,Value.agg #[.int .u8 K,.string nm,.slice A1 n1 k1,.int .i64 rf,.int .i64 v1,.int .i64 v2,.int .i64 wk,.slice A2 n2 k2,.slice A3 n3 k3,.string mn,.int .u8 mk,.slice A4 n4 k4,.slice A5 n5 k5])]).run Tryz.prog W=.ok (.slice (some ⟨W.heap.size,0,none⟩) 1 1) (W.alloc (.cells #[.int .u8 K,.string nm,.slice A1 n1 k1,.int .i64 rf,.int .i64 v1,.int .i64 v2,.int .i64 wk,.slice A2 n2 k2,.slice A3 n3 k3,.string mn,.int .u8 mk,.slice A4 n4 k4,.slice A5 n5 k5] 89)):=by kernel_rfl
theorem Yz {a b c:World} {v:Value} {row:Option Nat} (h:a.grownBy b row) (k:b.grownBy c v.ownBlock) (hf:From a.heap.size v):a.grownBy c row :=
 ⟨k.os.trans h.os,k.tape.trans h.tape,k.output.trans h.output,Nat.le_trans h.size k.size,fun i hi hn =>
  (k.block i (Nat.lt_of_lt_of_le hi h.size) (fun e=>by have:=hf i e.symm;omega)).trans (h.block i hi hn)⟩
set_option maxRecDepth 100000 in
theorem Re (w:World) (f:Bf) (A1:Option Addr) (c1:Nat) (A2:Option Addr) (c2:Nat) (hf:FlatAt w f A1 c1 A2 c2) (hn1:f.nodes.length≤1000000) (hn2:f.devs.length≤1000000)
  (hl:∀ d∈f.devs,d.nodes.length≤2000000∧d.wvals.length≤2000000∧d.wsteps.length≤2000000∧d.mg.length≤2000000∧d.mv.length≤2000000) :
  Calls Tryz.prog 12 #[.agg #[.slice A1 f.nodes.length c1,.slice A2 f.devs.length c2,.int .i64 f.step.1,.int .i64 f.step.2,.int .i64 f.method]] w fun e w'=>∃ B1 k1 B2 k2 base,e=.returned (.agg #[.slice B1 f.nodes.length k1,.slice B2 f.devs.length k2,.int .i64 f.step.1,.int .i64 f.step.2,.int .i64 f.method])∧
   Row w' (.slice B1 f.nodes.length k1) (strs f.nodes)∧(∀ b,(Value.slice B1 f.nodes.length k1).ownBlock=some b→w.heap.size≤b∧b<base)∧w.heap.size≤base∧DevsW w' base 89 (.slice B2 f.devs.length k2) f.devs∧w.grownBy w' none:=by
 have g1:=Af w (.cells #[.slice A1 f.nodes.length c1,.slice A2 f.devs.length c2,.int .i64 f.step.1,.int .i64 f.step.2,.int .i64 f.method] 27) none
 have g2:=Af (w.alloc (.cells #[.slice A1 f.nodes.length c1,.slice A2 f.devs.length c2,.int .i64 f.step.1,.int .i64 f.step.2,.int .i64 f.method] 27)) (.cells #[.slice none 0 0,.slice none 0 0,.int .i64 0,.int .i64 0,.int .i64 0] 27) none
 have hFB:=FlatBox.of ((Blk.new w #[.slice A1 f.nodes.length c1,.slice A2 f.devs.length c2,.int .i64 f.step.1,.int .i64 f.step.2,.int .i64 f.method] 27).more g2)
 have hZB:=Blk.new (w.alloc (.cells #[.slice A1 f.nodes.length c1,.slice A2 f.devs.length c2,.int .i64 f.step.1,.int .i64 f.step.2,.int .i64 f.method] 27)) #[.slice none 0 0,.slice none 0 0,.int .i64 0,.int .i64 0,.int .i64 0] 27
 rw [World.size_alloc] at hZB
 have gw:=Ae g1 g2
 have HF:=Ac (hf.more gw)
 have HZB:=Ac hZB
 have HFB:=Ac hFB
 have HGW:=Ac gw
 have HL:=Ac hl
 have hsz:w.heap.size+1<((w.alloc (.cells #[.slice A1 f.nodes.length c1,.slice A2 f.devs.length c2,.int .i64 f.step.1,.int .i64 f.step.2,.int .i64 f.method] 27)).alloc (.cells #[.slice none 0 0,.slice none 0 0,.int .i64 0,.int .i64 0,.int .i64 0] 27)).heap.size:=by simp
 clear hf hl gw g1 g2 hFB hZB
 go_enter Tryz.func12,Tryz.ntmps12
 go_upto_region 1 with (fail)
 generalize (w.alloc (.cells #[.slice A1 f.nodes.length c1,.slice A2 f.devs.length c2,.int .i64 f.step.1,.int .i64 f.step.2,.int .i64 f.method] 27)).alloc (.cells #[.slice none 0 0,.slice none 0 0,.int .i64 0,.int .i64 0,.int .i64 0] 27)=wa at *
 generalize hsw:w.heap.size=s at *
 obtain ⟨p0,p1,p2,p3,p4⟩:=HFB.out
 go_cut [3] (fun p wx=>∃ ob B1 k1,p=.pointer (some ⟨ob,0,none⟩)∧wa.heap.size≤ob∧wa.grownBy wx none∧Hid (Blk wx ob #[.slice B1 f.nodes.length k1,.slice none 0 0,.int .i64 f.step.1,.int .i64 f.step.2,.int .i64 f.method]∧Row wx (.slice B1 f.nodes.length k1) (strs f.nodes)∧∀ b,(Value.slice B1 f.nodes.length k1).ownBlock=some b→wa.heap.size≤b∧b<wx.heap.size))
 case first =>
  have hkk:∀ w',wa.grownBy w' none→w'.cell? ⟨s,0,none⟩=some (.slice A1 f.nodes.length c1)∧w'.cell? ⟨s,2,none⟩=some (.int .i64 f.step.1)∧w'.cell? ⟨s,3,none⟩=some (.int .i64 f.step.2)∧w'.cell? ⟨s,4,none⟩=some (.int .i64 f.method):=fun w' h=>by
   obtain ⟨a0,a1,a2,a3,a4⟩:=HFB.out.more h;exact ⟨a0,a2,a3,a4⟩
  have HKK:=Ac hkk
  clear hkk p0 p1 p2 p3 p4
  have n1:s≠wa.heap.size:=by omega
  have n2:s≠wa.heap.size+1:=by omega
  have n3:wa.heap.size≠s:=by omega
  have n4:wa.heap.size+1≠s:=by omega
  go_region_held3 (fun w'=>w'.cell? ⟨s,0,none⟩=some (.slice A1 f.nodes.length c1)∧w'.cell? ⟨s,2,none⟩=some (.int .i64 f.step.1)∧w'.cell? ⟨s,3,none⟩=some (.int .i64 f.step.2)∧w'.cell? ⟨s,4,none⟩=some (.int .i64 f.method)) (first | with_reducible exact hst _ _ _ _ _ | (refine HKK.out _ ?_;(focus ((repeat (first | assumption | exact Al _ _ | exact Ai _ _ | exact Af _ _ _ | refine Ae ?_ (Af _ _ _) | refine Ae ?_ (Ai _ _) | refine Ae ?_ (by assumption)));done));done) | (fail)) (first
   | (refine Io (W:=(wa.alloc (.cells #[] 9)).drew) (by rfl) (.tmp 6) (.tmp 8) 22 (by rfl) wa.heap.size 9 (.string ByteArray.empty) 1 16 Tryz.underlying22 Le rfl (by omega) (by omega) _ 0 [] (by rfl) (Jc (World.ownsRow_lit wa #[] 0 (Nat.le_refl _) (by decide) rfl) (by (focus ((repeat (first | assumption | exact Al _ _ | exact Ai _ _ | exact Af _ _ _ | refine Ae ?_ (Af _ _ _) | refine Ae ?_ (Ai _ _) | refine Ae ?_ (by assumption)));done)))) A1 f.nodes.length c1 (strs f.nodes) (by rfl) (by simp [strs]) (fun hp=>Row.srcs (HF.out.more (by (focus ((repeat (first | assumption | exact Al _ _ | exact Ai _ _ | exact Af _ _ _ | refine Ae ?_ (Af _ _ _) | refine Ae ?_ (Ai _ _) | refine Ae ?_ (by assumption)));done)))).nodes hp) (by cases A1;exact .inl rfl;exact .inr ⟨_,rfl⟩) (by simp [strs,Value.oneCell']) (by omega) (by simp<;>omega) ?_;intro v9 w9 hown9 hg9 hat9;obtain ⟨A9,c9,rfl⟩:=F5 hown9;have g9:wa.grownBy w9 none:=Aw (by (focus ((repeat (first | assumption | exact Al _ _ | exact Ai _ _ | exact Af _ _ _ | refine Ae ?_ (Af _ _ _) | refine Ae ?_ (Ai _ _) | refine Ae ?_ (by assumption)));done))) hg9 (by simp))
   | (refine Io (W:=((wa.alloc (.cells #[] 9)).alloc (.cells #[.slice none 0 0,.slice none 0 0,.int .i64 0,.int .i64 0,.int .i64 0] 27)).drew) (by rfl) (.tmp 6) (.tmp 8) 22 (by rfl) wa.heap.size 9 (.string ByteArray.empty) 1 16 Tryz.underlying22 Le rfl (by omega) (by omega) _ 0 [] (by rfl) (Jc (World.ownsRow_lit wa #[] 0 (Nat.le_refl _) (by decide) rfl) (by (focus ((repeat (first | assumption | exact Al _ _ | exact Ai _ _ | exact Af _ _ _ | refine Ae ?_ (Af _ _ _) | refine Ae ?_ (Ai _ _) | refine Ae ?_ (by assumption)));done)))) A1 f.nodes.length c1 (strs f.nodes) (by rfl) (by simp [strs]) (fun hp=>Row.srcs (HF.out.more (by (focus ((repeat (first | assumption | exact Al _ _ | exact Ai _ _ | exact Af _ _ _ | refine Ae ?_ (Af _ _ _) | refine Ae ?_ (Ai _ _) | refine Ae ?_ (by assumption)));done)))).nodes hp) (by cases A1;exact .inl rfl;exact .inr ⟨_,rfl⟩) (by simp [strs,Value.oneCell']) (by omega) (by simp<;>omega) ?_;intro v9 w9 hown9 hg9 hat9;obtain ⟨A9,c9,rfl⟩:=F5 hown9;have g9:wa.grownBy w9 none:=Aw (by (focus ((repeat (first | assumption | exact Al _ _ | exact Ai _ _ | exact Af _ _ _ | refine Ae ?_ (Af _ _ _) | refine Ae ?_ (Ai _ _) | refine Ae ?_ (by assumption)));done))) hg9 (by simp);have hz:=(((Blk.new (wa.alloc (.cells #[] 9)) #[.slice none 0 0,.slice none 0 0,.int .i64 0,.int .i64 0,.int .i64 0] 27).more (Ai _ _)).other hg9 (by simp));rw [World.size_alloc] at hz;have z0:=hz.cell 0;have z1:=hz.cell 1;have z2:=hz.cell 2;have z3:=hz.cell 3;have z4:=hz.cell 4;simp only [List.getElem?_toArray,List.getElem?_cons_zero,List.getElem?_cons_succ] at z0 z1 z2 z3 z4;have y0:=hz.free 0;have y1:=hz.free 1;have y2:=hz.free 2;have y3:=hz.free 3;have y4:=hz.free 4;have hst:=fun x0 x1 x2 x3 x4=>Po (HKK.out _ g9) x0 x1 x2 x3 x4 n2)
   | (refine Io (W:=((wa.alloc (.cells #[.slice none 0 0,.slice none 0 0,.int .i64 0,.int .i64 0,.int .i64 0] 27)).alloc (.cells #[] 9)).drew) (by rfl) (.tmp 6) (.tmp 8) 22 (by rfl) wa.heap.size 9 (.string ByteArray.empty) 1 16 Tryz.underlying22 Le rfl (by omega) (by omega) (.slice (some ⟨wa.heap.size+1,0,none⟩) 0 0) 0 [] (by rfl) (Jc (Zd wa #[.slice none 0 0,.slice none 0 0,.int .i64 0,.int .i64 0,.int .i64 0] 27 9) (by (focus ((repeat (first | assumption | exact Al _ _ | exact Ai _ _ | exact Af _ _ _ | refine Ae ?_ (Af _ _ _) | refine Ae ?_ (Ai _ _) | refine Ae ?_ (by assumption)));done)))) A1 f.nodes.length c1 (strs f.nodes) (by rfl) (by simp [strs]) (fun hp=>Row.srcs (HF.out.more (by (focus ((repeat (first | assumption | exact Al _ _ | exact Ai _ _ | exact Af _ _ _ | refine Ae ?_ (Af _ _ _) | refine Ae ?_ (Ai _ _) | refine Ae ?_ (by assumption)));done)))).nodes hp) (by cases A1;exact .inl rfl;exact .inr ⟨_,rfl⟩) (by simp [strs,Value.oneCell']) (by omega) (by simp<;>omega) ?_;intro v9 w9 hown9 hg9 hat9;obtain ⟨A9,c9,rfl⟩:=F5 hown9;have g9:wa.grownBy w9 none:=Aw (by (focus ((repeat (first | assumption | exact Al _ _ | exact Ai _ _ | exact Af _ _ _ | refine Ae ?_ (Af _ _ _) | refine Ae ?_ (Ai _ _) | refine Ae ?_ (by assumption)));done))) hg9 (by simp);have hz:=(((Blk.new wa #[.slice none 0 0,.slice none 0 0,.int .i64 0,.int .i64 0,.int .i64 0] 27).more (Ae (Af _ _ _) (Ai _ _))).other hg9 (by simp));have z0:=hz.cell 0;have z1:=hz.cell 1;have z2:=hz.cell 2;have z3:=hz.cell 3;have z4:=hz.cell 4;simp only [List.getElem?_toArray,List.getElem?_cons_zero,List.getElem?_cons_succ] at z0 z1 z2 z3 z4;have y0:=hz.free 0;have y1:=hz.free 1;have y2:=hz.free 2;have y3:=hz.free 3;have y4:=hz.free 4;have hst:=fun x0 x1 x2 x3 x4=>Po (HKK.out _ g9) x0 x1 x2 x3 x4 n1)
   | (fail))
  all_goals
   go_wp2_with fail
   go_meet
   first
   | exact ⟨_,A9,c9,rfl,g9.size,Ae g9 (Af _ _ _),Ac ⟨Blk.new _ _ _,Row.more (by simpa using E5 hown9) (Af _ _ _),fun b hb=>by have:=Zj hown9 b (by simpa using hb);exact ⟨this.1,Nat.lt_of_lt_of_le this.2 (Af _ _ none).size⟩⟩⟩
   | exact ⟨_,A9,c9,rfl,by simp,Aw g9 (L6 _ _ _ _ _ _ _) (by simp),Ac ⟨((((hz.set 0 _).set 1 _).set 2 _).set 3 _).set 4 _,Row.strs_keep (by simpa using E5 hown9) hz (L6 _ _ _ _ _ _ _) (by simp),fun b hb=>by have:=Zj hown9 b (by simpa using hb);exact ⟨this.1,Nat.lt_of_lt_of_le this.2 (L6 _ _ _ _ _ _ _).size⟩⟩⟩
 case rest =>
  obtain ⟨ob,B1,k1,rfl,hob,hgx,hh⟩:=hcut
  have HOB:=Ac hob
  have HGX:=Ac hgx
  have hobx:ob<wc.heap.size:=Dp (hh.out.1.cell 0)
  have HOBX:=Ac hobx
  clear p0 p1 p2 p3 p4 hob hgx hobx
  have p1:=(HFB.out.more HGX.out).c1
  go_wp2_with fail
  go_loopw [4] (fun iv wr=>∃ (k:Nat) (Ad:Option Addr) (cd:Nat),k≤f.devs.length∧iv=.int .i64 k∧wc.grownBy wr (some ob)∧Hid (Blk wr ob #[.slice B1 f.nodes.length k1,.slice Ad k cd,.int .i64 f.step.1,.int .i64 f.step.2,.int .i64 f.method]∧DevsW wr wc.heap.size 89 (.slice Ad k cd) (f.devs.take k)∧(k=0→Ad=none))) (fun iv _=>(f.devs.length-intOf iv).toNat)
  case atStart=>exact ⟨0,none,0,by omega,rfl,Al _ _,Ac ⟨hh.out.1,DevsW.nil _ _ _,fun _=>rfl⟩⟩
  case round =>
   obtain ⟨k,Ad,cd,hk,rfl,hg,hb⟩:=hrel
   have hga:=Aw HGX.out hg HOB.out
   have p1:=(HFB.out.more hga).c1
   by_cases hlt:k<f.devs.length
   ·obtain ⟨b,o,An,cn,Av,cv,As,cs,Ag,cg,Am,cm,rfl,hat,hc⟩:=(HF.out.more hga).devs.at2 hlt
    have hki:(k:Int)<(f.devs.length:Int):=by omega
    have htk:f.devs.take (k+1)=f.devs.take k++[f.devs.getD k dev0]:=by
     rw [List.take_succ_eq_append_getElem hlt];simp [List.getD,List.getElem?_eq_getElem hlt]
    have hld:=HL.out (f.devs.getD k dev0) (by simp [List.getD,List.getElem?_eq_getElem hlt])
    generalize f.devs.getD k dev0=d at *
    obtain ⟨l1,l2,l3,l4,l5⟩:=hld
    obtain ⟨q0,q1,q2,q3,q4,q5,q6,q7,q8,q9,q10,q11,q12⟩:=hc
    have HTK:=Ac htk
    have HAT:=Ac hat
    have HG:=Ac hg
    have HGA:=Ac hga
    have HOS:Hid (ob<wr.heap.size∧wc.heap.size≤wr.heap.size):=Ac ⟨Nat.lt_of_lt_of_le HOBX.out hg.size,hg.size⟩
    clear htk hat hg hga
    go_upto_region 6 with (fail)
    have HS:Hid (Stg wr (wr.alloc (.cells #[.int .u8 d.kind,.string d.name,.slice An d.nodes.length cn,.int .i64 d.ref,.int .i64 d.val.1,.int .i64 d.val.2,.int .i64 d.wkind,.slice Av d.wvals.length cv,.slice As d.wsteps.length cs,.string d.mname,.int .u8 d.mkind,.slice Ag d.mg.length cg,.slice Am d.mv.length cm] 89)) wr.heap.size #[.int .u8 d.kind,.string d.name,.slice An d.nodes.length cn,.int .i64 d.ref,.int .i64 d.val.1,.int .i64 d.val.2,.int .i64 d.wkind,.slice Av d.wvals.length cv,.slice As d.wsteps.length cs,.string d.mname,.int .u8 d.mkind,.slice Ag d.mg.length cg,.slice Am d.mv.length cm]):=Ac ⟨Af _ _ _,Nat.le_refl _,Blk.new wr #[.int .u8 d.kind,.string d.name,.slice An d.nodes.length cn,.int .i64 d.ref,.int .i64 d.val.1,.int .i64 d.val.2,.int .i64 d.wkind,.slice Av d.wvals.length cv,.slice As d.wsteps.length cs,.string d.mname,.int .u8 d.mkind,.slice Ag d.mg.length cg,.slice Am d.mv.length cm] 89⟩
    clear q0 q1 q2 q3 q4 q5 q6 q7 q8 q9 q10 q11 q12 p1
    generalize wr.alloc (.cells #[.int .u8 d.kind,.string d.name,.slice An d.nodes.length cn,.int .i64 d.ref,.int .i64 d.val.1,.int .i64 d.val.2,.int .i64 d.wkind,.slice Av d.wvals.length cv,.slice As d.wsteps.length cs,.string d.mname,.int .u8 d.mkind,.slice Ag d.mg.length cg,.slice Am d.mv.length cm] 89)=wb at *
    obtain ⟨z,hz⟩:∃ z,wr.heap.size=z:=⟨_,rfl⟩
    rw [hz] at HS ⊢
    have HZ:=Ac hz
    clear hz
    have x0:=HS.out.blk.cell 2
    simp only [List.getElem?_toArray,List.getElem?_cons_zero,List.getElem?_cons_succ] at x0
    have xa:=(HS.out.blk.more (Af wb (.cells #[] 3) none)).cell 2
    simp only [List.getElem?_toArray,List.getElem?_cons_zero,List.getElem?_cons_succ] at xa
    clear x0
    go_wp2_with (at_builtin;refine Fq wb.heap.size rfl _ _ 30 3 (.int .i64 0) 1 8 rfl Tryz.underlying30 Cm rfl (by omega) (by omega) _ 0 [] rfl (World.ownsRow_lit wb #[] 0 (Nat.le_refl _) (by decide) rfl) An d.nodes.length cn (ints d.nodes) rfl (by simp [ints]) (fun hp=>IntRow.srci (HAT.out.nodes.more (Ae HS.out.gb (Af _ _ none))) hp) (by cases An;exact .inl rfl;exact .inr ⟨_,rfl⟩) (by simp [ints,Value.oneCell']) (by omega) (by simp) ?_)
    intro v1 w1 hown1 hgo1 hat1
    clear xa
    have hi:=Sq hown1 HAT.out.nodes.all
    obtain ⟨B1',k1',rfl⟩:=F5 hown1
    have hgn1:(wb.alloc (.cells #[] _)).grownBy w1 (some wb.heap.size):=hgo1
    have hbk:=HS.out.blk.more (Aw (Af wb _ none) hgn1 (Nat.le_refl _))
    have x0:=hbk.cell 2
    simp only [List.getElem?_toArray,List.getElem?_cons_zero,List.getElem?_cons_succ] at x0
    have y0:=hbk.free 2
    have hst:=Kz HS.out (Jk _ _ _ _ _ _ _ _ _ _ _ _ _ _ _ _ _ _ _ _ _ _ _) hgn1 2 (.slice B1' d.nodes.length k1')
    have HS:Hid (Stg wr _ z #[.int .u8 d.kind,.string d.name,.slice B1' d.nodes.length k1',.int .i64 d.ref,.int .i64 d.val.1,.int .i64 d.val.2,.int .i64 d.wkind,.slice Av d.wvals.length cv,.slice As d.wsteps.length cs,.string d.mname,.int .u8 d.mkind,.slice Ag d.mg.length cg,.slice Am d.mv.length cm]):=Ac hst.1
    have HST1:=Ac hst.2.2
    have hs1:=hst.2.1
    clear hst hbk hgn1 hat1 hgo1
    go_upto_region 7 with (fail)
    clear x0 y0
    have HI1:=Ac (hi.step hs1)
    clear hi hs1 hown1
    generalize w1.setCell ⟨z,2,none⟩ (.slice B1' d.nodes.length k1')=wc1 at *
    have x0:=HS.out.blk.cell 7
    simp only [List.getElem?_toArray,List.getElem?_cons_zero,List.getElem?_cons_succ] at x0
    have xa:=(HS.out.blk.more (Af wc1 (.cells #[] 25) none)).cell 7
    simp only [List.getElem?_toArray,List.getElem?_cons_zero,List.getElem?_cons_succ] at xa
    clear x0
    go_wp2_with (at_builtin;refine Fq wc1.heap.size rfl _ _ 83 25 (.agg #[.int .i64 0,.int .i64 0]) 2 16 rfl Tryz.underlying83 Qv rfl (by omega) (by omega) _ 0 [] rfl (World.ownsRow_lit wc1 #[] 0 (Nat.le_refl _) (by decide) rfl) Av d.wvals.length cv (Gy d.wvals) rfl (Gc _) (fun hp=>NumRow.src (HAT.out.vals.more (Ae HS.out.gb (Af _ _ none))) hp) (by cases Av;exact .inl rfl;exact .inr ⟨_,rfl⟩) (Lx _) (by omega) (by simp) ?_)
    intro v2 w2 hown2 hgo2 hat2
    clear xa
    have hi:=O6 hown2 HAT.out.vals.all
    obtain ⟨B2',k2',rfl⟩:=F5 hown2
    have hgn2:(wc1.alloc (.cells #[] _)).grownBy w2 (some wc1.heap.size):=hgo2
    have hbk:=HS.out.blk.more (Aw (Af wc1 _ none) hgn2 (Nat.le_refl _))
    have x0:=hbk.cell 7
    simp only [List.getElem?_toArray,List.getElem?_cons_zero,List.getElem?_cons_succ] at x0
    have y0:=hbk.free 7
    have hst:=Kz HS.out (Jk _ _ _ _ _ _ _ _ _ _ _ _ _ _ _ _ _ _ _ _ _ _ _) hgn2 7 (.slice B2' d.wvals.length k2')
    have HS:Hid (Stg wr _ z #[.int .u8 d.kind,.string d.name,.slice B1' d.nodes.length k1',.int .i64 d.ref,.int .i64 d.val.1,.int .i64 d.val.2,.int .i64 d.wkind,.slice B2' d.wvals.length k2',.slice As d.wsteps.length cs,.string d.mname,.int .u8 d.mkind,.slice Ag d.mg.length cg,.slice Am d.mv.length cm]):=Ac hst.1
    have HST2:=Ac hst.2.2
    have hs1:=hst.2.1
    clear hst hbk hgn2 hat2 hgo2
    go_upto_region 8 with (fail)
    clear x0 y0
    have HI2:=Ac (hi.step hs1)
    clear hi hs1 hown2
    generalize w2.setCell ⟨z,7,none⟩ (.slice B2' d.wvals.length k2')=wc2 at *
    have HI1:=Ac (HI1.out.step HST2.out)
    have x0:=HS.out.blk.cell 8
    simp only [List.getElem?_toArray,List.getElem?_cons_zero,List.getElem?_cons_succ] at x0
    have xa:=(HS.out.blk.more (Af wc2 (.cells #[] 3) none)).cell 8
    simp only [List.getElem?_toArray,List.getElem?_cons_zero,List.getElem?_cons_succ] at xa
    clear x0
    go_wp2_with (at_builtin;refine Fq wc2.heap.size rfl _ _ 30 3 (.int .i64 0) 1 8 rfl Tryz.underlying30 Cm rfl (by omega) (by omega) _ 0 [] rfl (World.ownsRow_lit wc2 #[] 0 (Nat.le_refl _) (by decide) rfl) As d.wsteps.length cs (ints d.wsteps) rfl (by simp [ints]) (fun hp=>IntRow.srci (HAT.out.steps.more (Ae HS.out.gb (Af _ _ none))) hp) (by cases As;exact .inl rfl;exact .inr ⟨_,rfl⟩) (by simp [ints,Value.oneCell']) (by omega) (by simp) ?_)
    intro v3 w3 hown3 hgo3 hat3
    clear xa
    have hi:=Sq hown3 HAT.out.steps.all
    obtain ⟨B3',k3',rfl⟩:=F5 hown3
    have hgn3:(wc2.alloc (.cells #[] _)).grownBy w3 (some wc2.heap.size):=hgo3
    have hbk:=HS.out.blk.more (Aw (Af wc2 _ none) hgn3 (Nat.le_refl _))
    have x0:=hbk.cell 8
    simp only [List.getElem?_toArray,List.getElem?_cons_zero,List.getElem?_cons_succ] at x0
    have y0:=hbk.free 8
    have hst:=Kz HS.out (Jk _ _ _ _ _ _ _ _ _ _ _ _ _ _ _ _ _ _ _ _ _ _ _) hgn3 8 (.slice B3' d.wsteps.length k3')
    have HS:Hid (Stg wr _ z #[.int .u8 d.kind,.string d.name,.slice B1' d.nodes.length k1',.int .i64 d.ref,.int .i64 d.val.1,.int .i64 d.val.2,.int .i64 d.wkind,.slice B2' d.wvals.length k2',.slice B3' d.wsteps.length k3',.string d.mname,.int .u8 d.mkind,.slice Ag d.mg.length cg,.slice Am d.mv.length cm]):=Ac hst.1
    have HST3:=Ac hst.2.2
    have hs1:=hst.2.1
    clear hst hbk hgn3 hat3 hgo3
    go_upto_region 9 with (fail)
    clear x0 y0
    have HI3:=Ac (hi.step hs1)
    clear hi hs1 hown3
    generalize w3.setCell ⟨z,8,none⟩ (.slice B3' d.wsteps.length k3')=wc3 at *
    have HI1:=Ac (HI1.out.step HST3.out)
    have HI2:=Ac (HI2.out.step HST3.out)
    have x0:=HS.out.blk.cell 11
    simp only [List.getElem?_toArray,List.getElem?_cons_zero,List.getElem?_cons_succ] at x0
    have xa:=(HS.out.blk.more (Af wc3 (.cells #[] 25) none)).cell 11
    simp only [List.getElem?_toArray,List.getElem?_cons_zero,List.getElem?_cons_succ] at xa
    clear x0
    go_wp2_with (at_builtin;refine Fq wc3.heap.size rfl _ _ 83 25 (.agg #[.int .i64 0,.int .i64 0]) 2 16 rfl Tryz.underlying83 Qv rfl (by omega) (by omega) _ 0 [] rfl (World.ownsRow_lit wc3 #[] 0 (Nat.le_refl _) (by decide) rfl) Ag d.mg.length cg (Gy d.mg) rfl (Gc _) (fun hp=>NumRow.src (HAT.out.g.more (Ae HS.out.gb (Af _ _ none))) hp) (by cases Ag;exact .inl rfl;exact .inr ⟨_,rfl⟩) (Lx _) (by omega) (by simp) ?_)
    intro v4 w4 hown4 hgo4 hat4
    clear xa
    have hi:=O6 hown4 HAT.out.g.all
    obtain ⟨B4',k4',rfl⟩:=F5 hown4
    have hgn4:(wc3.alloc (.cells #[] _)).grownBy w4 (some wc3.heap.size):=hgo4
    have hbk:=HS.out.blk.more (Aw (Af wc3 _ none) hgn4 (Nat.le_refl _))
    have x0:=hbk.cell 11
    simp only [List.getElem?_toArray,List.getElem?_cons_zero,List.getElem?_cons_succ] at x0
    have y0:=hbk.free 11
    have hst:=Kz HS.out (Jk _ _ _ _ _ _ _ _ _ _ _ _ _ _ _ _ _ _ _ _ _ _ _) hgn4 11 (.slice B4' d.mg.length k4')
    have HS:Hid (Stg wr _ z #[.int .u8 d.kind,.string d.name,.slice B1' d.nodes.length k1',.int .i64 d.ref,.int .i64 d.val.1,.int .i64 d.val.2,.int .i64 d.wkind,.slice B2' d.wvals.length k2',.slice B3' d.wsteps.length k3',.string d.mname,.int .u8 d.mkind,.slice B4' d.mg.length k4',.slice Am d.mv.length cm]):=Ac hst.1
    have HST4:=Ac hst.2.2
    have hs1:=hst.2.1
    clear hst hbk hgn4 hat4 hgo4
    go_upto_region 10 with (fail)
    clear x0 y0
    have HI4:=Ac (hi.step hs1)
    clear hi hs1 hown4
    generalize w4.setCell ⟨z,11,none⟩ (.slice B4' d.mg.length k4')=wc4 at *
    have HI1:=Ac (HI1.out.step HST4.out)
    have HI2:=Ac (HI2.out.step HST4.out)
    have HI3:=Ac (HI3.out.step HST4.out)
    have x0:=HS.out.blk.cell 12
    simp only [List.getElem?_toArray,List.getElem?_cons_zero,List.getElem?_cons_succ] at x0
    have xa:=(HS.out.blk.more (Af wc4 (.cells #[] 25) none)).cell 12
    simp only [List.getElem?_toArray,List.getElem?_cons_zero,List.getElem?_cons_succ] at xa
    clear x0
    go_wp2_with (at_builtin;refine Fq wc4.heap.size rfl _ _ 83 25 (.agg #[.int .i64 0,.int .i64 0]) 2 16 rfl Tryz.underlying83 Qv rfl (by omega) (by omega) _ 0 [] rfl (World.ownsRow_lit wc4 #[] 0 (Nat.le_refl _) (by decide) rfl) Am d.mv.length cm (Gy d.mv) rfl (Gc _) (fun hp=>NumRow.src (HAT.out.v.more (Ae HS.out.gb (Af _ _ none))) hp) (by cases Am;exact .inl rfl;exact .inr ⟨_,rfl⟩) (Lx _) (by omega) (by simp) ?_)
    intro v5 w5 hown5 hgo5 hat5
    clear xa
    have hi:=O6 hown5 HAT.out.v.all
    obtain ⟨B5',k5',rfl⟩:=F5 hown5
    have hgn5:(wc4.alloc (.cells #[] _)).grownBy w5 (some wc4.heap.size):=hgo5
    have hbk:=HS.out.blk.more (Aw (Af wc4 _ none) hgn5 (Nat.le_refl _))
    have x0:=hbk.cell 12
    simp only [List.getElem?_toArray,List.getElem?_cons_zero,List.getElem?_cons_succ] at x0
    have y0:=hbk.free 12
    have hst:=Kz HS.out (Jk _ _ _ _ _ _ _ _ _ _ _ _ _ _ _ _ _ _ _ _ _ _ _) hgn5 12 (.slice B5' d.mv.length k5')
    have HS:Hid (Stg wr _ z #[.int .u8 d.kind,.string d.name,.slice B1' d.nodes.length k1',.int .i64 d.ref,.int .i64 d.val.1,.int .i64 d.val.2,.int .i64 d.wkind,.slice B2' d.wvals.length k2',.slice B3' d.wsteps.length k3',.string d.mname,.int .u8 d.mkind,.slice B4' d.mg.length k4',.slice B5' d.mv.length k5']):=Ac hst.1
    have HST5:=Ac hst.2.2
    have hs1:=hst.2.1
    clear hst hbk hgn5 hat5 hgo5
    go_upto_region 11 with (fail)
    clear x0 y0
    have HI5:=Ac (hi.step hs1)
    clear hi hs1 hown5
    generalize w5.setCell ⟨z,12,none⟩ (.slice B5' d.mv.length k5')=wc5 at *
    have HI1:=Ac (HI1.out.step HST5.out)
    have HI2:=Ac (HI2.out.step HST5.out)
    have HI3:=Ac (HI3.out.step HST5.out)
    have HI4:=Ac (HI4.out.step HST5.out)
    have hbb:=hb.out
    obtain ⟨hb1,hb2,hb3⟩:=hbb
    have hob5:=hb1.more HS.out.gb
    have c1:=hob5.cell 1
    simp only [List.getElem?_toArray,List.getElem?_cons_zero,List.getElem?_cons_succ] at c1
    obtain ⟨nn,xs,hown,hrec⟩:=hb2.more HS.out.gb
    have hcnt:=hown.count hrec (by omega)
    obtain rfl:nn=k:=by rw [hcnt,List.length_take];omega
    have hx:=DevBox.of (An:=B1') (cn:=k1') (Av:=B2') (cv:=k2') (As:=B3') (cs:=k3') (Ag:=B4') (cg:=k4') (Am:=B5') (cm:=k5') HS.out.blk
    obtain ⟨x0,x1,x2,x3,x4,x5,x6,x7,x8,x9,x10,x11,x12⟩:=hx
    have hobn:(Value.slice Ad nn cd).ownBlock≠some ob:=fun e=>by
     have:=hown.from _ e
     have:=HOBX.out
     omega
    have HDW:Hid (DevW wc5 ((#[.int .u8 d.kind,.string d.name,.slice B1' d.nodes.length k1',.int .i64 d.ref,.int .i64 d.val.1,.int .i64 d.val.2,.int .i64 d.wkind,.slice B2' d.wvals.length k2',.slice B3' d.wsteps.length k3',.string d.mname,.int .u8 d.mkind,.slice B4' d.mg.length k4',.slice B5' d.mv.length k5']:Array Value).toList) d):=Ac ⟨HAT.out.kind,HAT.out.mkind,HAT.out.ref,HAT.out.v1,HAT.out.v2,HAT.out.wkind,HAT.out.name,HAT.out.small,_,_,_,_,_,rfl,HI1.out,HI2.out,HI3.out,HI4.out,HI5.out⟩
    have HSOFT:Hid (∀ r,(Value.slice Ad nn cd).ownBlock=some r→Soft (wc5.alloc (.cells #[.int .u8 d.kind,.string d.name,.slice B1' d.nodes.length k1',.int .i64 d.ref,.int .i64 d.val.1,.int .i64 d.val.2,.int .i64 d.wkind,.slice B2' d.wvals.length k2',.slice B3' d.wsteps.length k3',.string d.mname,.int .u8 d.mkind,.slice B4' d.mg.length k4',.slice B5' d.mv.length k5'] 89)) r):=Ac fun r hr=>by
     by_cases h0:nn=0
     ·rw [hb3 h0] at hr;simp [Value.ownBlock] at hr
     ·exact DevsW.soft (DevsW.more ⟨_,xs,hown,hrec⟩ (Af _ _ _)) r hr (by omega)
    have HOB5:=Ac hob5
    have HOWN:=Ac hown
    have HREC:=Ac hrec
    have HOBN:=Ac hobn
    have hwz:wc.heap.size≤wc5.heap.size:=Nat.le_trans HOS.out.2 HS.out.gb.size
    clear hb1 hb2 hb3 hob5 hown hrec hcnt hobn
    have hbd:=Yc d.kind d.name d.ref d.val.1 d.val.2 d.wkind d.mname d.mkind B1' B2' B3' B4' B5' d.nodes.length d.wvals.length d.wsteps.length d.mg.length d.mv.length k1' k2' k3' k4' k5'
    go_wp2_with (first
     | (refine K5 rfl 23 89 (.tmp 62) rfl #[.int .u8 d.kind,.string d.name,.slice B1' d.nodes.length k1',.int .i64 d.ref,.int .i64 d.val.1,.int .i64 d.val.2,.int .i64 d.wkind,.slice B2' d.wvals.length k2',.slice B3' d.wsteps.length k3',.string d.mname,.int .u8 d.mkind,.slice B4' d.mg.length k4',.slice B5' d.mv.length k5'] (by rfl) hbd ?_)
     | (at_builtin;refine Ua wc.heap.size rfl (.tmp 61) (.tmp 63) 23 89 (.agg #[.int .u8 0,.string ByteArray.empty,.slice none 0 0,.int .i64 0,.int .i64 0,.int .i64 0,.int .i64 0,.slice none 0 0,.slice none 0 0,.string ByteArray.empty,.int .u8 0,.slice none 0 0,.slice none 0 0]) 13 200 rfl Tryz.underlying23 A0c rfl (by omega) (by omega) (.slice Ad nn cd) nn xs #[.int .u8 d.kind,.string d.name,.slice B1' d.nodes.length k1',.int .i64 d.ref,.int .i64 d.val.1,.int .i64 d.val.2,.int .i64 d.wkind,.slice B2' d.wvals.length k2',.slice B3' d.wsteps.length k3',.string d.mname,.int .u8 d.mkind,.slice B4' d.mg.length k4',.slice B5' d.mv.length k5'] (by rfl) HOWN.out (by rfl) (by rfl) (by simp [Value.oneCell']) (by omega) hwz (Jk _ _ _ _ _ _ _ _ _ _ _ _ _ _ _ _ _ _ _ _ _ _ _).1 S6 ?_;intro g cap w15 hown15 hg15 hgat;obtain ⟨d0,f0⟩:w15.cell? ⟨ob,1,none⟩=some (.slice Ad nn cd)∧w15.frozen? ⟨ob,1,none⟩=false:=⟨((HOB5.out.more (Af _ _ _)).row hg15 HOBN.out).cell 1,((HOB5.out.more (Af _ _ _)).row hg15 HOBN.out).free 1⟩;have H15:=Ac (And.intro hown15 hg15);clear hown15 hg15 hgat)
     | fail)
    have hown15:=H15.out.1
    have hgp:g≠ob:=by have:=hown15.from g rfl;have:=HOBX.out;omega
    have hblk15:=(HOB5.out.more (Af wc5 (.cells #[.int .u8 d.kind,.string d.name,.slice B1' d.nodes.length k1',.int .i64 d.ref,.int .i64 d.val.1,.int .i64 d.val.2,.int .i64 d.wkind,.slice B2' d.wvals.length k2',.slice B3' d.wsteps.length k3',.string d.mname,.int .u8 d.mkind,.slice B4' d.mg.length k4',.slice B5' d.mv.length k5'] 89) none)).row H15.out.2 HOBN.out
    have hst1:StayR wc5 (wc5.alloc (.cells #[.int .u8 d.kind,.string d.name,.slice B1' d.nodes.length k1',.int .i64 d.ref,.int .i64 d.val.1,.int .i64 d.val.2,.int .i64 d.wkind,.slice B2' d.wvals.length k2',.slice B3' d.wsteps.length k3',.string d.mname,.int .u8 d.mkind,.slice B4' d.mg.length k4',.slice B5' d.mv.length k5'] 89)):=StayR.none (Af _ _ _)
    have hst2:StayR (wc5.alloc (.cells #[.int .u8 d.kind,.string d.name,.slice B1' d.nodes.length k1',.int .i64 d.ref,.int .i64 d.val.1,.int .i64 d.val.2,.int .i64 d.wkind,.slice B2' d.wvals.length k2',.slice B3' d.wsteps.length k3',.string d.mname,.int .u8 d.mkind,.slice B4' d.mg.length k4',.slice B5' d.mv.length k5'] 89)) w15:=A00 H15.out.2 HSOFT.out
    have hst3:=StayR.row (Au w15 ob 1 (.slice (some ⟨g,0,none⟩) (nn+1) cap)) (hblk15.soft (Vo _ _ _ _ _ _ _ _ _))
    have hall:=hst1.trans (hst2.trans hst3)
    refine ⟨⟨nn+1,some ⟨g,0,none⟩,cap,by omega,by go_num,?_,Ac ⟨hblk15.set 1 _,⟨_,_,hown15.other (Au w15 ob 1 _) (by simp [Value.ownBlock];exact hgp),?_⟩,fun h=>by omega⟩⟩,by simp [intOf];omega⟩
    ·exact Ae (Yz (Ae HG.out (C0 (Ae HS.out.gb (Af _ _ _)))) H15.out.2 (HOWN.out.from)) (Au _ _ _ _)
    ·rw [HTK.out]
     exact RecR.snoc (k:=13) (ys:=(#[.int .u8 d.kind,.string d.name,.slice B1' d.nodes.length k1',.int .i64 d.ref,.int .i64 d.val.1,.int .i64 d.val.2,.int .i64 d.wkind,.slice B2' d.wvals.length k2',.slice B3' d.wsteps.length k3',.string d.mname,.int .u8 d.mkind,.slice B4' d.mg.length k4',.slice B5' d.mv.length k5']:Array Value).toList) rfl (HDW.out.step hall) (HREC.out.imp fun cs a h=>h.step hall)
   ·obtain rfl:k=f.devs.length:=by omega
    obtain ⟨hb1,hb2,hb3⟩:=hb.out
    have x0:=hb1.cell 0
    have x1:=hb1.cell 1
    have x2:=hb1.cell 2
    have x3:=hb1.cell 3
    have x4:=hb1.cell 4
    simp only [List.getElem?_toArray,List.getElem?_cons_zero,List.getElem?_cons_succ] at x0 x1 x2 x3 x4
    have hzb:=HZB.out.more hga
    obtain ⟨z0,z1,z2,z3,z4⟩:wr.cell? ⟨s+1,0,none⟩=some (.slice none 0 0)∧wr.cell? ⟨s+1,1,none⟩=some (.slice none 0 0)∧wr.cell? ⟨s+1,2,none⟩=some (.int .i64 0)∧wr.cell? ⟨s+1,3,none⟩=some (.int .i64 0)∧wr.cell? ⟨s+1,4,none⟩=some (.int .i64 0):=⟨hzb.cell 0,hzb.cell 1,hzb.cell 2,hzb.cell 3,hzb.cell 4⟩
    have y0:=hzb.free 0
    have y1:=hzb.free 1
    have y2:=hzb.free 2
    have y3:=hzb.free 3
    have y4:=hzb.free 4
    rw [List.take_length] at hb2
    have HB2:=Ac hb2
    have HB1:=Ac hb1
    have HZ2:=Ac hzb
    have HGG:=Ac (Ae HGW.out hga)
    clear hb2 hb1 hb3 hzb hb
    go_wp2_with fail
    try simp only [Exit.inBlock,Exit.then]
    have hz5:=((((HZ2.out.set 0 (.slice B1 f.nodes.length k1)).set 1 (.slice Ad f.devs.length cd)).set 2 (.int .i64 f.step.1)).set 3 (.int .i64 f.step.2)).set 4 (.int .i64 f.method)
    generalize hww:((((wr.setCell ⟨s+1,0,none⟩ (.slice B1 f.nodes.length k1)).setCell ⟨s+1,1,none⟩ (.slice Ad f.devs.length cd)).setCell ⟨s+1,2,none⟩ (.int .i64 f.step.1)).setCell ⟨s+1,3,none⟩ (.int .i64 f.step.2)).setCell ⟨s+1,4,none⟩ (.int .i64 f.method)=W5 at *
    have hgw:wr.grownBy W5 (some (s+1)):=by rw [←hww];exact L6 _ _ _ _ _ _ _
    have hz5':Blk W5 (s+1) #[.slice B1 f.nodes.length k1,.slice Ad f.devs.length cd,.int .i64 f.step.1,.int .i64 f.step.2,.int .i64 f.method]:=hz5
    have c0:=hz5'.cell 0
    have c1:=hz5'.cell 1
    have c2:=hz5'.cell 2
    have c3:=hz5'.cell 3
    have c4:=hz5'.cell 4
    simp only [List.getElem?_toArray,List.getElem?_cons_zero,List.getElem?_cons_succ] at c0 c1 c2 c3 c4
    refine bodyPost_ret (v:=.agg #[.slice B1 f.nodes.length k1,.slice Ad f.devs.length cd,.int .i64 f.step.1,.int .i64 f.step.2,.int .i64 f.method]) (by simp [results,Tryz.results12,go_sem, *]) rfl ⟨B1,k1,Ad,cd,wc.heap.size,rfl,?_,?_,?_,?_,?_⟩
    ·exact (hh.out.2.1.strs_keep hh.out.1 hg (by simp)).strs_keep HZ2.out hgw (by simp)
    ·intro b hb
     have h1:=hh.out.2.2 b hb
     exact ⟨by omega,h1.2⟩
    ·have:=HGX.out.size;omega
    ·exact HB2.out.other hgw (HZ2.out.soft (Vo _ _ _ _ _ _ _ _ _)) (fun e=>by have:=HB2.out.from _ e;have:=HGX.out.size;omega)
    ·exact Aw HGG.out hgw (by omega)
end
section
open Go.RowKit Go.Maps
open Rat
theorem G9 (W0 w:World) (pb:Nat) (d:DevP) (An:Option Addr) (cn:Nat) (Av:Option Addr) (cv:Nat) (As:Option Addr) (cs:Nat) (Ag:Option Addr) (cg:Nat) (Am:Option Addr) (cm:Nat) (br:List Int) (k:Int) (L:List StampP) (h:PenS W0 w pb d An cn Av cv As cs Ag cg Am cm br k L) (row col:Int) (ir:I64 row) (ic:I64 col) (vb:Nat) (q:Rat) (hq:RatB w vb q) (lq:LimQ q 1099511627776) (hL:L.length≤100000000) :
  Calls Tryz.prog 205 #[.pointer (some ⟨pb,0,none⟩),.int .i64 row,.int .i64 col,.pointer (some ⟨vb,0,none⟩)] w fun e w'=>e=.returned (.tuple #[])∧Hid (PenS W0 w' pb d An cn Av cv As cs Ag cg Am cm br k (L++put1 2 row col q)∧Keeps w w'):=by
 have hP:=Gi W0 w pb d An cn Av cv As cs Ag cg Am cm br k L h 2 row col ⟨by omega,by omega⟩ ir ic vb q hq lq hL
 have HP:=Ac hP
 clear hP h hq lq
 go_enter Tryz.func205,Tryz.ntmps205
 go_wp2_with fail
 refine HP.out.mono ?_
 rintro e w1 ⟨rfl,hK⟩
 go_wp2_with fail
 go_end0
 exact ⟨rfl,hK⟩
def Gv (a2 a3 j:Int) (q:Rat):List StampP:=put1 1 j a2 (-q)++put1 1 j a3 q
set_option maxRecDepth 100000 in
theorem Nt (W0 w:World) (pb:Nat) (d:DevP) (An:Option Addr) (cn:Nat) (Av:Option Addr) (cv:Nat) (As:Option Addr) (cs:Nat) (Ag:Option Addr) (cg:Nat) (Am:Option Addr) (cm:Nat) (br:List Int) (k:Int) (L:List StampP) (h:PenS W0 w pb d An cn Av cv As cs Ag cg Am cm br k L) (hn:NodesOK d) (h2:4≤d.nodes.length) (hk0:0≤k) (hk1:k.toNat<br.length) (ij:I64 (br.getD k.toNat 0)) (yb:Nat) (q:Rat) (hq:RatB w yb q) (lq:LimQ q 1099511627776) (hL:L.length≤1000000) :
  Calls Tryz.prog 159 #[.pointer (some ⟨pb,0,none⟩),.pointer (some ⟨yb,0,none⟩)] w fun e w'=>e=.returned (.tuple #[])∧Hid (PenS W0 w' pb d An cn Av cv As cs Ag cg Am cm br k (L++Gv (d.at 2) (d.at 3) (br.getD k.toNat 0) q)∧Keeps w w'):=by
 have HP:=Ac h
 have HN:=Ac hn
 have HY:=Ac hq
 have HLQ:=Ac lq
 have HLN:=Ac lq.neg
 have HK:=Ac (Keeps.refl w)
 have HI:=Ac (fun i=>hn.i64 i)
 have HJ:=Ac ij
 have l1:=Fs L 1 (br.getD k.toNat 0) (d.at 2) (-q)
 have hfin:L++put1 1 (br.getD k.toNat 0) (d.at 2) (-q)++put1 1 (br.getD k.toNat 0) (d.at 3) q=L++Gv (d.at 2) (d.at 3) (br.getD k.toNat 0) q:=by unfold Gv;simp only [List.append_assoc]
 have HFIN:=Ac hfin
 have hown:=fun w' L' (h':PenS W0 w' pb d An cn Av cv As cs Ag cg Am cm br k L')=>Da W0 w' pb d An cn Av cv As cs Ag cg Am cm br k L' h' hk0 hk1
 have HOWN:=Ac hown
 clear h hn hq lq hfin ij hown
 generalize br.getD k.toNat 0=J at *
 go_enter Tryz.func159,Tryz.ntmps159
 go_wp2_with fail
 refine (HOWN.out w _ HP.out).mono ?_
 rintro e w1 ⟨rfl,hgn⟩
 have HP:=Ac (HP.out.more hgn)
 have HK:=Ac (HK.out.trans (Keeps.more hgn))
 go_wp2_with fail
 refine (Be W0 w1 pb d An cn Av cv As cs Ag cg Am cm br k _ HP.out HN.out 2 (by omega) (by omega)).mono ?_
 rintro e w' ⟨rfl,rfl⟩
 go_wp2_with fail
 have HY:=Ac (HY.out.more hgn)
 clear hgn
 refine (C5 w1 yb q HY.out HLQ.out).mono ?_
 rintro e w2 ⟨nb',rfl,hnb,hgn⟩
 have HP:=Ac (HP.out.more hgn)
 have HY:=Ac (HY.out.more hgn)
 have HK:=Ac (HK.out.trans (Keeps.more hgn))
 have HNB:=Ac hnb
 clear hnb
 go_wp2_with fail
 refine (Cg W0 w2 pb d An cn Av cv As cs Ag cg Am cm br k _ HP.out J (d.at 2) HJ.out (HI.out 2) nb' (-q) HNB.out HLN.out (by omega)).mono ?_
 rintro e w3 ⟨rfl,h1⟩
 have HP:=Ac h1.out.1
 have HY:=Ac (h1.out.2.pen HY.out)
 have HK:=Ac (HK.out.trans h1.out.2)
 clear h1 HNB hgn
 go_wp2_with fail
 refine (HOWN.out w3 _ HP.out).mono ?_
 rintro e w4 ⟨rfl,hgn⟩
 have HP:=Ac (HP.out.more hgn)
 have HK:=Ac (HK.out.trans (Keeps.more hgn))
 go_wp2_with fail
 refine (Be W0 w4 pb d An cn Av cv As cs Ag cg Am cm br k _ HP.out HN.out 3 (by omega) (by omega)).mono ?_
 rintro e w' ⟨rfl,rfl⟩
 go_wp2_with fail
 have HY:=Ac (HY.out.more hgn)
 clear hgn
 refine (Cg W0 w4 pb d An cn Av cv As cs Ag cg Am cm br k _ HP.out J (d.at 3) HJ.out (HI.out 3) yb q HY.out HLQ.out (by omega)).mono ?_
 rintro e w5 ⟨rfl,h1⟩
 go_wp2_with fail
 go_end0
 exact ⟨rfl,Ac ⟨by rw [←HFIN.out];exact h1.out.1,HK.out.trans h1.out.2⟩⟩
end
section
open Go.RowKit Go.Maps
open Rat
theorem kne {x:Int} {n:Int} (h:x≠n):(x==n)=false:=by rw [beq_eq_false_iff_ne];exact h
set_option maxRecDepth 100000 in
theorem A1b (W0 w:World) (pb:Nat) (d:DevP) (An:Option Addr) (cn:Nat) (Av:Option Addr) (cv:Nat) (As:Option Addr) (cs:Nat) (Ag:Option Addr) (cg:Nat) (Am:Option Addr) (cm:Nat) (br:List Int) (k:Int) (L:List StampP) (h:PenS W0 w pb d An cn Av cv As cs Ag cg Am cm br k L) (hn:NodesOK d) (h2:4≤d.nodes.length) (hkd:d.kind=103) (hv:NumOK d.val.1 d.val.2) (hL:L.length≤1000) (A1:Option Addr) (n1 c1:Nat) (A2:Option Addr) (n2 c2:Nat) (s1 s2 me mode method t1 t2 seg:Int) :
  Calls Tryz.prog 95 #[.pointer (some ⟨pb,0,none⟩),.agg #[.slice A1 n1 c1,.slice A2 n2 c2,.int .i64 s1,.int .i64 s2,.int .i64 me],.agg #[.int .i64 mode,.int .i64 method,.int .i64 t1,.int .i64 t2],.int .i64 seg] w fun e w'=>e=.returned (.tuple #[])∧Hid (PenS W0 w' pb d An cn Av cv As cs Ag cg Am cm br k (L++C7 (d.at 0) (d.at 1) (d.at 2) (d.at 3) (numQ d.val.1 d.val.2))∧Keeps w w'):=by
 have tk1:=kne (show d.kind≠114 by omega)
 have tk:(d.kind==103)=true:=by rw [beq_iff_eq];exact hkd
 have HLQ:=Ac (Ba hv)
 clear hkd
 have gw:=Ae (Ae (Af w (.cells #[.slice A1 n1 c1,.slice A2 n2 c2,.int .i64 s1,.int .i64 s2,.int .i64 me] 27) none) (Af (w.alloc (.cells #[.slice A1 n1 c1,.slice A2 n2 c2,.int .i64 s1,.int .i64 s2,.int .i64 me] 27)) (.cells #[.int .i64 mode,.int .i64 method,.int .i64 t1,.int .i64 t2] 29) none)) (Af ((w.alloc (.cells #[.slice A1 n1 c1,.slice A2 n2 c2,.int .i64 s1,.int .i64 s2,.int .i64 me] 27)).alloc (.cells #[.int .i64 mode,.int .i64 method,.int .i64 t1,.int .i64 t2] 29)) (.cells #[.bool false,.slice none 0 0,.bool false,.slice none 0 0] 178) none)
 have HP:=Ac (h.more gw)
 have HN:=Ac hn
 have HK:=Ac (Keeps.more gw)
 have HI:=Ac (fun i=>hn.i64 i)
 have HV:=Ac hv
 have hvb:=hv.bounds
 obtain ⟨c0,c4,c5,c14⟩:=HP.out.cells
 have hNV:=Bd (((w.alloc (.cells #[.slice A1 n1 c1,.slice A2 n2 c2,.int .i64 s1,.int .i64 s2,.int .i64 me] 27)).alloc (.cells #[.int .i64 mode,.int .i64 method,.int .i64 t1,.int .i64 t2] 29)).alloc (.cells #[.bool false,.slice none 0 0,.bool false,.slice none 0 0] 178)) d.val.1 d.val.2 (by omega) (by omega) (by omega) (by omega)
 rw [show decide (NumOK d.val.1 d.val.2)=true from decide_eq_true hv] at hNV
 have HNV:=Ac hNV
 clear h hn hv hNV
 go_enter Tryz.func95,Tryz.ntmps95
 go_wp2_with fail
 generalize ((w.alloc (.cells #[.slice A1 n1 c1,.slice A2 n2 c2,.int .i64 s1,.int .i64 s2,.int .i64 me] 27)).alloc (.cells #[.int .i64 mode,.int .i64 method,.int .i64 t1,.int .i64 t2] 29)).alloc (.cells #[.bool false,.slice none 0 0,.bool false,.slice none 0 0] 178)=wa at *
 refine HNV.out.mono ?_
 rintro e w1 ⟨rfl,hg1⟩
 have HP:=Ac (HP.out.more hg1)
 have HK:=Ac (HK.out.trans (Keeps.more hg1))
 clear c0 c4 c5 c14 HNV gw hg1
 obtain ⟨c0,c4,c5,c14⟩:=HP.out.cells
 go_wp2_with fail
 refine (Bh w1 d.val.1 d.val.2 HV.out).mono ?_
 rintro e w2 ⟨xb,rfl,hx,hxb,hg2⟩
 have HP:=Ac (HP.out.more hg2)
 have HK:=Ac (HK.out.trans (Keeps.more hg2))
 have HX:=Ac hx
 clear c0 c4 c5 c14 hx hg2 hxb
 obtain ⟨c0,c4,c5,c14⟩:=HP.out.cells
 go_wp2_with fail
 refine (Be W0 w2 pb d An cn Av cv As cs Ag cg Am cm br k _ HP.out HN.out 2 (by omega) (by omega)).mono ?_
 rintro e w' ⟨rfl,rfl⟩
 go_wp2_with fail
 refine (Be W0 w2 pb d An cn Av cv As cs Ag cg Am cm br k _ HP.out HN.out 3 (by omega) (by omega)).mono ?_
 rintro e w' ⟨rfl,rfl⟩
 go_wp2_with fail
 refine (Fr W0 w2 pb d An cn Av cv As cs Ag cg Am cm br k _ HP.out HN.out (by omega) (d.at 2) (d.at 3) (HI.out 2) (HI.out 3) xb _ HX.out (HLQ.out.mono (by omega)) (by omega)).mono ?_
 rintro e w4 ⟨rfl,h1⟩
 go_wp2_with fail
 go_end0
 exact ⟨rfl,Ac ⟨h1.out.1,HK.out.trans h1.out.2⟩⟩
theorem Eb (a b j:Int):(outL a b j).length≤2:=by unfold outL put1;split<;>split<;>simp
theorem Cw (a b j:Int):(Bw a b j).length≤2:=by unfold Bw put1;split<;>split<;>simp
set_option maxRecDepth 100000 in
theorem A19 (W0 w:World) (pb:Nat) (d:DevP) (An:Option Addr) (cn:Nat) (Av:Option Addr) (cv:Nat) (As:Option Addr) (cs:Nat) (Ag:Option Addr) (cg:Nat) (Am:Option Addr) (cm:Nat) (br:List Int) (k:Int) (L:List StampP) (h:PenS W0 w pb d An cn Av cv As cs Ag cg Am cm br k L) (hn:NodesOK d) (h2:4≤d.nodes.length) (hkd:d.kind=101) (hv:NumOK d.val.1 d.val.2) (hL:L.length≤1000) (hk0:0≤k) (hk1:k.toNat<br.length) (ij:I64 (br.getD k.toNat 0)) (A1:Option Addr) (n1 c1:Nat) (A2:Option Addr) (n2 c2:Nat) (s1 s2 me mode method t1 t2 seg:Int) :
  Calls Tryz.prog 95 #[.pointer (some ⟨pb,0,none⟩),.agg #[.slice A1 n1 c1,.slice A2 n2 c2,.int .i64 s1,.int .i64 s2,.int .i64 me],.agg #[.int .i64 mode,.int .i64 method,.int .i64 t1,.int .i64 t2],.int .i64 seg] w fun e w'=>e=.returned (.tuple #[])∧Hid (PenS W0 w' pb d An cn Av cv As cs Ag cg Am cm br k (L++(outL (d.at 0) (d.at 1) (br.getD k.toNat 0)++(Bw (d.at 0) (d.at 1) (br.getD k.toNat 0)++Gv (d.at 2) (d.at 3) (br.getD k.toNat 0) (numQ d.val.1 d.val.2))))∧Keeps w w'):=by
 have tk1:=kne (show d.kind≠114 by omega)
 have tk2:=kne (show d.kind≠103 by omega)
 have tk3:=kne (show d.kind≠118 by omega)
 have tk4:=kne (show d.kind≠105 by omega)
 have tk:(d.kind==101)=true:=by rw [beq_iff_eq];exact hkd
 have HLQ:=Ac (Ba hv)
 have hout:=fun w' L' (h':PenS W0 w' pb d An cn Av cv As cs Ag cg Am cm br k L') (hl:L'.length≤1000000)=>Dz W0 w' pb d An cn Av cv As cs Ag cg Am cm br k L' h' hn (by omega) hk0 hk1 ij hl
 have hacr:=fun w' L' (h':PenS W0 w' pb d An cn Av cv As cs Ag cg Am cm br k L') (hl:L'.length≤1000000)=>Cv W0 w' pb d An cn Av cv As cs Ag cg Am cm br k L' h' hn (by omega) hk0 hk1 ij hl
 have hles:=fun w' L' (h':PenS W0 w' pb d An cn Av cv As cs Ag cg Am cm br k L') yb q hq lq (hl:L'.length≤1000000)=>Nt W0 w' pb d An cn Av cv As cs Ag cg Am cm br k L' h' hn h2 hk0 hk1 ij yb q hq lq hl
 have HOUT:=Ac hout
 have HACR:=Ac hacr
 have HLES:=Ac hles
 clear hkd hout hacr hles ij
 generalize br.getD k.toNat 0=J at *
 have l1:=Eb (d.at 0) (d.at 1) J
 have l2:=Cw (d.at 0) (d.at 1) J
 have hfin:L++outL (d.at 0) (d.at 1) J++Bw (d.at 0) (d.at 1) J++Gv (d.at 2) (d.at 3) J (numQ d.val.1 d.val.2)=L++(outL (d.at 0) (d.at 1) J++(Bw (d.at 0) (d.at 1) J++Gv (d.at 2) (d.at 3) J (numQ d.val.1 d.val.2))):=by simp only [List.append_assoc]
 have HFIN:=Ac hfin
 clear hfin
 have gw:=Ae (Ae (Af w (.cells #[.slice A1 n1 c1,.slice A2 n2 c2,.int .i64 s1,.int .i64 s2,.int .i64 me] 27) none) (Af (w.alloc (.cells #[.slice A1 n1 c1,.slice A2 n2 c2,.int .i64 s1,.int .i64 s2,.int .i64 me] 27)) (.cells #[.int .i64 mode,.int .i64 method,.int .i64 t1,.int .i64 t2] 29) none)) (Af ((w.alloc (.cells #[.slice A1 n1 c1,.slice A2 n2 c2,.int .i64 s1,.int .i64 s2,.int .i64 me] 27)).alloc (.cells #[.int .i64 mode,.int .i64 method,.int .i64 t1,.int .i64 t2] 29)) (.cells #[.bool false,.slice none 0 0,.bool false,.slice none 0 0] 178) none)
 have HP:=Ac (h.more gw)
 have HN:=Ac hn
 have HK:=Ac (Keeps.more gw)
 have HI:=Ac (fun i=>hn.i64 i)
 have HV:=Ac hv
 have hvb:=hv.bounds
 obtain ⟨c0,c4,c5,c14⟩:=HP.out.cells
 have hNV:=Bd (((w.alloc (.cells #[.slice A1 n1 c1,.slice A2 n2 c2,.int .i64 s1,.int .i64 s2,.int .i64 me] 27)).alloc (.cells #[.int .i64 mode,.int .i64 method,.int .i64 t1,.int .i64 t2] 29)).alloc (.cells #[.bool false,.slice none 0 0,.bool false,.slice none 0 0] 178)) d.val.1 d.val.2 (by omega) (by omega) (by omega) (by omega)
 rw [show decide (NumOK d.val.1 d.val.2)=true from decide_eq_true hv] at hNV
 have HNV:=Ac hNV
 clear h hn hv hNV
 go_enter Tryz.func95,Tryz.ntmps95
 go_wp2_with fail
 generalize ((w.alloc (.cells #[.slice A1 n1 c1,.slice A2 n2 c2,.int .i64 s1,.int .i64 s2,.int .i64 me] 27)).alloc (.cells #[.int .i64 mode,.int .i64 method,.int .i64 t1,.int .i64 t2] 29)).alloc (.cells #[.bool false,.slice none 0 0,.bool false,.slice none 0 0] 178)=wa at *
 refine HNV.out.mono ?_
 rintro e w1 ⟨rfl,hg1⟩
 have HP:=Ac (HP.out.more hg1)
 have HK:=Ac (HK.out.trans (Keeps.more hg1))
 clear c0 c4 c5 c14 HNV gw hg1
 obtain ⟨c0,c4,c5,c14⟩:=HP.out.cells
 go_wp2_with fail
 refine (Bh w1 d.val.1 d.val.2 HV.out).mono ?_
 rintro e w2 ⟨xb,rfl,hx,hxb,hg2⟩
 have HP:=Ac (HP.out.more hg2)
 have HK:=Ac (HK.out.trans (Keeps.more hg2))
 have HX:=Ac hx
 clear c0 c4 c5 c14 hx hg2 hxb
 obtain ⟨c0,c4,c5,c14⟩:=HP.out.cells
 go_wp2_with fail
 refine (HOUT.out w2 _ HP.out (by omega)).mono ?_
 rintro e w3 ⟨rfl,h1⟩
 have HP:=Ac h1.out.1
 have HK:=Ac (HK.out.trans h1.out.2)
 have HX:=Ac (h1.out.2.pen HX.out)
 clear h1 c0 c4 c5 c14
 go_wp2_with fail
 refine (HACR.out w3 _ HP.out (by rw [List.length_append];omega)).mono ?_
 rintro e w4 ⟨rfl,h1⟩
 have HP:=Ac h1.out.1
 have HK:=Ac (HK.out.trans h1.out.2)
 have HX:=Ac (h1.out.2.pen HX.out)
 clear h1
 go_wp2_with fail
 refine (HLES.out w4 _ HP.out xb _ HX.out (HLQ.out.mono (by omega)) (by rw [List.length_append,List.length_append];omega)).mono ?_
 rintro e w5 ⟨rfl,h1⟩
 go_wp2_with fail
 go_end0
 exact ⟨rfl,Ac ⟨by rw [←HFIN.out];exact h1.out.1,HK.out.trans h1.out.2⟩⟩
end
section
open Go.RowKit
open Rat
theorem Zc:LimQ ((1000000000:Int) /. 1) 1:=LimQ.divInt (by decide) (by decide) (by decide)
set_option maxRecDepth 100000 in
theorem Uk (w:World) (nm:ByteArray) (kind:Int) (vg vv:Value) (gs vs:List (Int × Int)) (k:Nat) (hg:NumRow w vg gs) (hv:NumRow w vv vs) (hk:k<vs.length) (hok:NumOK (vs.getD k (0,0)).1 (vs.getD k (0,0)).2) :
  Calls Tryz.prog 209 #[.agg #[.string nm,.int .u8 kind,vg,vv],.int .i64 k] w fun e w'=>∃ b,e=.returned (.pointer (some ⟨b,0,none⟩))∧RatB w' b (pQ (vs.getD k (0,0))*((1000000000:Int) /. 1))∧w.heap.size≤b∧w.grownBy w' none:=by
 obtain ⟨A1,c1,rfl,a1,a2,_,_⟩:=hg
 obtain ⟨A2,c2,rfl,b1,b2,_,b4⟩:=hv
 obtain ⟨b,o,rfl,hc⟩:=b4 (by omega)
 obtain ⟨p0,p1⟩:=hc k hk
 have hB:=(Blk.new w #[.string nm,.int .u8 kind,.slice A1 gs.length c1,.slice (some ⟨b,o,none⟩) vs.length c2] 87)
 have ga:=Af w (.cells #[.string nm,.int .u8 kind,.slice A1 gs.length c1,.slice (some ⟨b,o,none⟩) vs.length c2] 87) none
 have gb:=Af (w.alloc (.cells #[.string nm,.int .u8 kind,.slice A1 gs.length c1,.slice (some ⟨b,o,none⟩) vs.length c2] 87)) (.cells #[.bool false,.slice none 0 0,.bool false,.slice none 0 0] 178) none
 have hz:=RatB.new (w.alloc (.cells #[.string nm,.int .u8 kind,.slice A1 gs.length c1,.slice (some ⟨b,o,none⟩) vs.length c2] 87)) 178
 rw [World.size_alloc] at hz
 obtain ⟨m0,m1,m2,m3,_⟩:=(hB.more gb).four
 have gw:=Ae ga gb
 have q0:=Aj gw p0 (by simp)
 have q1:=Aj gw p1 (by simp)
 have e1:(k:Int)<(vs.length:Int):=by omega
 clear hc b4 hB p0 p1 ga
 generalize hp:vs.getD k (0,0)=p at *
 obtain ⟨m,e⟩:=p
 have HOK:=Ac hok
 have hlq:LimQ (numQ m e) 3:=Ba hok
 simp only at q0 q1
 show Calls _ _ _ _ fun e' w'=>∃ b,e'=_∧RatB w' b (numQ m e*((1000000000:Int) /. 1))∧_
 clear hok hp
 generalize vs.length=lv at *
 go_enter Tryz.func209,Tryz.ntmps209
 go_wp2_with fail
 generalize (w.alloc (.cells #[.string nm,.int .u8 kind,.slice A1 gs.length c1,.slice (some ⟨b,o,none⟩) lv c2] 87)).alloc (.cells #[.bool false,.slice none 0 0,.bool false,.slice none 0 0] 178)=wa at *
 generalize hs:w.heap.size=s at *
 refine (Fd wa m e HOK.out).mono ?_
 rintro o' w1 ⟨b1',rfl,hr1,hb1,hg1⟩
 have zlt:=hz.lt
 have s1:=hg1.size
 go_wp2_with fail
 refine (F7 w1 1000000000 1 (by omega) (by omega) (by omega) (by omega) (by omega)).mono ?_
 rintro o' w2 ⟨b2',rfl,hr2,hb2,hg2⟩
 go_wp2_with fail
 refine (Gl w2 (s+1) b1' b2' 0 (numQ m e) _ (hz.more (Ae hg1 hg2)) (hr1.more hg2) hr2 3 (by omega) hlq (Zc.mono (by omega))).mono ?_
 rintro o' w3 ⟨rfl,hr3,hg3⟩
 go_wp2
 go_ret
 exact ⟨s+1,rfl,hr3,by omega,Aw (Ae gw (Ae hg1 hg2)) hg3 (by omega)⟩
end
end Go.Proofs.YtmfmfpmkgmkgiaaGreatDoor
