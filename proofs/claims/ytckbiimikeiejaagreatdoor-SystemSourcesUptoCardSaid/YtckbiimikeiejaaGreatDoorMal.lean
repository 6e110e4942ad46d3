/- FlatB FlatC FlatD StA. -/
import Derived.Test.YtckbiimikeiejaaGreatDoorMaj
import Derived.Test.YtckbiimikeiejaaGreatDoorMak
import Derived.Test.YtckbiimikeiejaaGreatDoorMad
import Derived.Maps.AppendAt
import Derived.Deep.AppendLies
import Derived.Deep.RegionHeld3
set_option linter.unusedVariables false
set_option linter.unusedSimpArgs false
set_option maxHeartbeats 40000000
namespace Go.Proofs.YtckbiimikeiejaaGreatDoor
section
open Go.RowKit Go.Maps
def GlobOK (w:World):Prop:=∃ m,w.cell? ⟨0,0,none⟩=some (.int .i64 m)
theorem GlobOK.more {w w':World} (h:GlobOK w) (hg:w.grownBy w' none):GlobOK w':=by
 obtain ⟨m,h⟩:=h;exact ⟨m,Aj hg h (by simp)⟩
def nmOK (s:ByteArray):Bool:=D9 s.data.toList
def dot:ByteArray:=⟨#[46]⟩
def D3 (s:ByteArray):Bool:=decide (Lib.countB s dot+1≤9)&&(Lib.splitB dot 0 (Lib.countB s dot) s).all nmOK
theorem Sh (w:World) (s:ByteArray) :
  Calls Tryz.prog 201 #[.string s] w fun e w'=>e=.returned (.bool (!nmOK s))∧w.grownBy w' none:=by
 obtain ⟨R,hR⟩:∃ R,D9 s.data.toList=R:=⟨_,rfl⟩
 have h:=Rc w s
 rw [hR] at h
 show Calls _ _ _ _ fun e w'=>e=.returned (.bool (!D9 s.data.toList))∧_
 rw [hR]
 clear hR
 go_enter Tryz.func201,Tryz.ntmps201
 go_wp2_with fail
 refine h.mono ?_
 rintro e w1 ⟨rfl,hg⟩
 go_wp2
 go_ret
 exact ⟨rfl,hg⟩
def FIX (r:Int) (l:List ByteArray):Prop:=-1≤r∧(r<0↔l.all nmOK=true)
set_option maxRecDepth 100000 in
theorem Ln (w:World) (v:Value) (l:List ByteArray) (hr:Row w v (strs l)) :
  Calls Tryz.prog 251 #[v,.func (.func 201) #[] #[]] w fun e w'=>∃ r:Int,e=.returned (.int .i64 r)∧Hid (FIX r l)∧w.grownBy w' none:=by
 have HR:=Ac hr
 obtain ⟨A,c,rfl,h1,h2,h3⟩:=hr
 rw [Bt] at *
 have H3:=Ac h3
 clear h3
 go_enter Tryz.func251,Tryz.ntmps251
 go_wp2_with fail
 go_loopw [8] (fun i wr=>∃ k:Nat,k≤l.length∧i=.int .i64 k∧Hid (∀ t,t<k→nmOK (l.getD t default)=true)∧w.grownBy wr none) (fun i _=>l.length-(intOf i).toNat)
 case atStart=>exact ⟨0,Nat.zero_le _,rfl,Ac (fun t ht=>by omega),Al _ _⟩
 case round =>
  obtain ⟨k,hk,rfl,hS,hg⟩:=hrel
  by_cases hlt:k<l.length
  ·have hcell:∃ b o,A=some ⟨b,o,none⟩∧wr.cell? ⟨b,o+k,none⟩=some (.string (l.getD k default)):=by
    rcases H3.out with ⟨h0,_⟩ | ⟨b,o,rfl,hc⟩
    ·have:=congrArg List.length h0;rw [Bt] at this;exact absurd (show l.length=0 from this) (by omega)
    ·exact ⟨b,o,rfl,Aj hg ((hc k hlt).trans (I2 l k hlt)) (by simp)⟩
   obtain ⟨b,o,rfl,hc⟩:=hcell
   generalize hx:l.getD k default=x at *
   have HX:=Ac hx
   clear hx
   go_wp2_with fail
   refine (Sh wr x).mono ?_
   rintro e w1 ⟨rfl,hg1⟩
   cases hd:nmOK x with
   | false =>
    have HD:=Ac hd
    clear hd
    go_wp2
    go_ret
    refine ⟨_,rfl,Ac ⟨by omega,⟨fun h=>by omega,fun h=>?_⟩⟩,Ae hg hg1⟩
    rw [List.all_eq_true] at h
    have:=h x (by rw [←HX.out];simp [List.getD,List.getElem?_eq_getElem hlt])
    rw [HD.out] at this
    cases this
   | true =>
    have HD:=Ac hd
    clear hd
    go_wp2
    exact ⟨⟨k+1,by omega,by go_num,Ac (fun t ht=>by
     by_cases htk:t=k
     ·subst htk;rw [HX.out];exact HD.out
     ·exact hS.out t (by omega)),Ae hg hg1⟩,by simp [intOf];omega⟩
  ·obtain rfl:k=l.length:=by omega
   go_wp2_with fail
   go_ret
   refine ⟨_,rfl,Ac ⟨by omega,⟨fun _=>?_,fun _=>by omega⟩⟩,hg⟩
   rw [List.all_eq_true]
   intro x hx
   obtain ⟨j,hj,rfl⟩:=List.mem_iff_getElem.1 hx
   have:=hS.out j hj
   rwa [show l.getD j default=l[j] by simp [List.getD,List.getElem?_eq_getElem hj]] at this
theorem Js (w:World) (v:Value) (l:List ByteArray) (hr:Row w v (strs l)) :
  Calls Tryz.prog 200 #[v,.func (.func 201) #[] #[]] w fun e w'=>e=.returned (.bool (!l.all nmOK))∧w.grownBy w' none:=by
 have h:=Ln w v l hr
 obtain ⟨A,c,rfl,h1,h2,h3⟩:=hr
 clear h3
 go_enter Tryz.func200,Tryz.ntmps200
 go_wp2_with fail
 refine h.mono ?_
 rintro e w1 ⟨r,rfl,hf,hg⟩
 have h1:=hf.out.1
 by_cases hneg:r<0
 ·have hz:¬ (0:Int)≤r:=by omega
  have ha:=hf.out.2.1 hneg
  have HA:=Ac ha
  clear ha
  go_wp2
  go_ret
  exact ⟨Ao (by rw [HA.out];simp;omega),hg⟩
 ·have hz:(0:Int)≤r:=by omega
  have ha:l.all nmOK=false:=by
   cases hh:l.all nmOK
   ·rfl
   ·exact absurd (hf.out.2.2 hh) hneg
  have HA:=Ac ha
  clear ha
  go_wp2
  go_ret
  exact ⟨Ao (by rw [HA.out];simp),hg⟩
set_option maxRecDepth 100000 in
theorem Mh (w:World) (s:ByteArray) (hg:GlobOK w) (hs:s.size<4294967281) :
  Calls Tryz.prog 133 #[.string s] w fun e w'=>e=.returned (.bool (D3 s))∧w.grownBy w' none:=by
 obtain ⟨m,hm⟩:=hg
 have hsp:=Tryz.strings_Split s dot m w hs hm (by decide)
 have hlen:=Lib.splitB_all dot (by decide) 0 _ s rfl
 have hcnt:=Lib.countB_le dot (by decide) s.size s (Nat.le_refl _)
 have hU:Hid (D3 s=(decide (Lib.countB s dot+1≤9)&&(Lib.splitB dot 0 (Lib.countB s dot) s).all nmOK)):=Ac rfl
 generalize Lib.splitB dot 0 (Lib.countB s dot) s=parts at *
 generalize Lib.countB s dot=n at *
 have hr:Row (w.alloc (.cells (parts.map Value.string).toArray 9)) (.slice (some ⟨w.heap.size,0,none⟩) (n+1) (n+1)) (strs parts):=by
  refine Row.mk (by rw [Bt];omega) (by rw [Bt];omega) (by omega) fun i hi=>?_
  rw [Ay (Bi w _),Nat.zero_add]
  simp [strs]
 have ga:=Af w (.cells (parts.map Value.string).toArray 9) none
 have hC:=Js _ _ _ hr
 have HSP:=Ac hsp
 have HC:=Ac hC
 have hn:n≤4294967281:=by omega
 clear hsp hC hlen hr hm hcnt
 go_enter Tryz.func133,Tryz.ntmps133
 go_wp2_with fail
 refine HSP.out.mono ?_
 rintro e w1 ⟨rfl,rfl⟩
 by_cases h9:n+1≤9
 ·have h9':((n:Int)+1)≤9:=by omega
  go_wp2_with fail
  refine HC.out.mono ?_
  rintro e w1 ⟨rfl,hg1⟩
  generalize hall:parts.all nmOK=B at *
  go_wp2
  go_ret
  exact ⟨Ao (by rw [hU.out];simp [h9]),Ae ga hg1⟩
 ·have h9':¬ ((n:Int)+1)≤9:=by omega
  go_wp2
  go_ret
  exact ⟨Ao (by rw [hU.out];simp [h9]),ga⟩
end
section
open Go.RowKit Go.Maps
theorem Blk.three {w:World} {b:Nat} {x y z:Value} (h:Blk w b #[x,y,z]):w.cell? ⟨b,0,none⟩=some x∧w.cell? ⟨b,1,none⟩=some y∧w.cell? ⟨b,2,none⟩=some z :=
 ⟨h.cell 0,h.cell 1,h.cell 2⟩
def Cj (kind:Int) (lv ls:Nat):Bool:=decide (kind=0)&&decide (lv+ls=0)
theorem Dr (w:World) (kind:Int) (A1 A2:Option Addr) (lv ls c1 c2:Nat) (h1:lv≤1099511627776000) (h2:ls≤1099511627776000) :
  Calls Tryz.prog 204 #[.agg #[.int .i64 kind,.slice A1 lv c1,.slice A2 ls c2]] w fun e w'=>e=.returned (.bool (Cj kind lv ls))∧w.grownBy w' none:=by
 have gw:=Af w (.cells #[.int .i64 kind,.slice A1 lv c1,.slice A2 ls c2] 85) none
 obtain ⟨m0,m1,m2⟩:=(Blk.new w #[.int .i64 kind,.slice A1 lv c1,.slice A2 ls c2] 85).three
 have HU:Hid (Cj kind lv ls=(decide (kind=0)&&decide (lv+ls=0))):=Ac rfl
 by_cases hk:kind=0
 ·subst hk
  go_enter Tryz.func204,Tryz.ntmps204
  go_wp2
  go_ret
  exact ⟨Ao (by rw [HU.out,Bool.eq_iff_iff];simp;try omega),gw⟩
 ·have t:(kind==0)=false:=by rw [beq_eq_false_iff_ne];exact hk
  have HK:=Ac hk
  clear hk
  go_enter Tryz.func204,Tryz.ntmps204
  go_wp2
  go_ret
  exact ⟨Ao (by rw [HU.out];simp [HK.out]),gw⟩
def Ci (nm:ByteArray) (kind:Int) (lg lv:Nat):Bool:=decide (nm.data.toList=[])&&decide (kind=0)&&decide (lg+lv=0)
theorem Dg (w:World) (nm:ByteArray) (kind:Int) (A1 A2:Option Addr) (lg lv c1 c2:Nat) (h1:lg≤1099511627776000) (h2:lv≤1099511627776000) :
  Calls Tryz.prog 203 #[.agg #[.string nm,.int .u8 kind,.slice A1 lg c1,.slice A2 lv c2]] w fun e w'=>e=.returned (.bool (Ci nm kind lg lv))∧w.grownBy w' none:=by
 have gw:=Af w (.cells #[.string nm,.int .u8 kind,.slice A1 lg c1,.slice A2 lv c2] 87) none
 obtain ⟨m0,m1,m2,m3,_⟩:=(Blk.new w #[.string nm,.int .u8 kind,.slice A1 lg c1,.slice A2 lv c2] 87).four
 have HU:Hid (Ci nm kind lg lv=(decide (nm.data.toList=[])&&decide (kind=0)&&decide (lg+lv=0))):=Ac rfl
 have hE:nm.toList=nm.data.toList:=Lib.toList_data nm
 by_cases he:nm.toList=[]
 ·have HE:Hid (nm.data.toList=[]):=Ac (by rw [←hE];exact he)
  have he':nm.toList.isEmpty=true:=by rw [he];rfl
  clear hE
  by_cases hk:kind=0
  ·subst hk
   go_enter Tryz.func203,Tryz.ntmps203
   go_wp2
   go_ret
   exact ⟨Ao (by rw [HU.out,HE.out,Bool.eq_iff_iff];simp;try omega),gw⟩
  ·have t:(kind==0)=false:=by rw [beq_eq_false_iff_ne];exact hk
   have HK:=Ac hk
   clear hk
   go_enter Tryz.func203,Tryz.ntmps203
   go_wp2
   go_ret
   exact ⟨Ao (by rw [HU.out];simp [HK.out]),gw⟩
 ·have HE:Hid (¬ nm.data.toList=[]):=Ac (by rw [←hE];exact he)
  have he':nm.toList.isEmpty=false:=by rw [List.isEmpty_eq_false_iff];exact he
  clear hE
  go_enter Tryz.func203,Tryz.ntmps203
  go_wp2
  go_ret
  exact ⟨Ao (by rw [HU.out];simp [HE.out]),gw⟩
/-! ### devices as data -/
structure DevP where
 kind:Int
 name:ByteArray
 nodes:List Int
 ref:Int
 val:Int × Int
 wkind:Int
 wvals:List (Int × Int)
 wsteps:List Int
 mname:ByteArray
 mkind:Int
 mg:List (Int × Int)
 mv:List (Int × Int)
def dev0:DevP:=⟨0,ByteArray.empty,[],0,(0,0),0,[],[],ByteArray.empty,0,[],[]⟩
def DevP.small (d:DevP):Prop:=d.nodes.length≤140737488355328∧d.wvals.length≤140737488355328∧d.wsteps.length≤140737488355328∧d.mg.length≤140737488355328∧d.mv.length≤140737488355328
def DevV (w:World) (cs:List Value) (d:DevP):Prop :=
 (0≤d.kind∧d.kind≤255)∧(0≤d.mkind∧d.mkind≤255)∧I64 d.ref∧I64 d.val.1∧I64 d.val.2∧I64 d.wkind∧d.name.size<4294967281∧d.small∧
 ∃ vn vv vs vg vm,cs=[.int .u8 d.kind,.string d.name,vn,.int .i64 d.ref,.int .i64 d.val.1,.int .i64 d.val.2,.int .i64 d.wkind,vv,vs,.string d.mname,.int .u8 d.mkind,vg,vm]∧
  IntRow w vn d.nodes∧NumRow w vv d.wvals∧IntRow w vs d.wsteps∧NumRow w vg d.mg∧NumRow w vm d.mv
theorem DevV.more {w w':World} {cs:List Value} {d:DevP} (h:DevV w cs d) (hg:w.grownBy w' none):DevV w' cs d:=by
 obtain ⟨a1,a2,a3,a4,a5,a6,a7,a8,vn,vv,vs,vg,vm,e,h1,h2,h3,h4,h5⟩:=h
 exact ⟨a1,a2,a3,a4,a5,a6,a7,a8,vn,vv,vs,vg,vm,e,h1.more hg,h2.more hg,h3.more hg,h4.more hg,h5.more hg⟩
def DevRow (w:World) (v:Value) (l:List DevP):Prop :=
 ∃ A c,v=.slice A l.length c∧l.length≤c∧c≤9223372036854775807∧
  (0<l.length→∃ b o,A=some ⟨b,o,none⟩∧∀ i,i<l.length→∃ cs,DevV w cs (l.getD i dev0)∧∀ j,j<13→w.cell? ⟨b,o+i*13+j,none⟩=cs[j]?)
theorem DevRow.more {w w':World} {v:Value} {l:List DevP} (h:DevRow w v l) (hg:w.grownBy w' none):DevRow w' v l:=by
 obtain ⟨A,c,rfl,h1,h2,h4⟩:=h
 refine ⟨A,c,rfl,h1,h2,fun hp=>?_⟩
 obtain ⟨b,o,rfl,hc⟩:=h4 hp
 refine ⟨b,o,rfl,fun i hi=>?_⟩
 obtain ⟨cs,hr,hcell⟩:=hc i hi
 refine ⟨cs,hr.more hg,fun j hj=>?_⟩
 have hl:cs.length=13:=by obtain ⟨_,_,_,_,_,_,_,_,_,_,_,_,_,rfl,_⟩:=hr;rfl
 have e:=hcell j hj
 rw [List.getElem?_eq_getElem (by omega)] at e ⊢
 exact Aj hg e (by simp)
theorem DevRow.ctor {w:World} {v:Value} {l:List DevP} (h:DevRow w v l):∃ A c,v=.slice A l.length c∧l.length≤c∧c≤9223372036854775807:=by
 obtain ⟨A,c,rfl,h1,h2,_⟩:=h
 exact ⟨A,c,rfl,h1,h2⟩
def E3 (d:DevP) (An:Option Addr) (cn:Nat) (Av:Option Addr) (cv:Nat) (As:Option Addr) (cs:Nat) (Ag:Option Addr) (cg:Nat) (Am:Option Addr) (cm:Nat):List Value :=
 [.int .u8 d.kind,.string d.name,.slice An d.nodes.length cn,.int .i64 d.ref,.int .i64 d.val.1,.int .i64 d.val.2,.int .i64 d.wkind,.slice Av d.wvals.length cv,.slice As d.wsteps.length cs,.string d.mname,.int .u8 d.mkind,.slice Ag d.mg.length cg,.slice Am d.mv.length cm]
structure DevAt (w:World) (d:DevP) (An:Option Addr) (cn:Nat) (Av:Option Addr) (cv:Nat) (As:Option Addr) (cs:Nat) (Ag:Option Addr) (cg:Nat) (Am:Option Addr) (cm:Nat):Prop where
 kind:0≤d.kind∧d.kind≤255
 mkind:0≤d.mkind∧d.mkind≤255
 ref:I64 d.ref
 v1:I64 d.val.1
 v2:I64 d.val.2
 wkind:I64 d.wkind
 name:d.name.size<4294967281
 small:d.small
 nodes:IntRow w (.slice An d.nodes.length cn) d.nodes
 vals:NumRow w (.slice Av d.wvals.length cv) d.wvals
 steps:IntRow w (.slice As d.wsteps.length cs) d.wsteps
 g:NumRow w (.slice Ag d.mg.length cg) d.mg
 v:NumRow w (.slice Am d.mv.length cm) d.mv
theorem NumRow.ctor {w:World} {v:Value} {l:List (Int × Int)} (h:NumRow w v l):∃ A c,v=.slice A l.length c∧l.length≤c∧c≤9223372036854775807:=by
 obtain ⟨A,c,rfl,h1,h2,_⟩:=h
 exact ⟨A,c,rfl,h1,h2⟩
theorem DevAt.more {w w':World} {d:DevP} {An Av As Ag Am:Option Addr} {cn cv cs cg cm:Nat} (h:DevAt w d An cn Av cv As cs Ag cg Am cm) (hg:w.grownBy w' none):DevAt w' d An cn Av cv As cs Ag cg Am cm :=
 ⟨h.kind,h.mkind,h.ref,h.v1,h.v2,h.wkind,h.name,h.small,h.nodes.more hg,h.vals.more hg,h.steps.more hg,h.g.more hg,h.v.more hg⟩
theorem DevV.open {w:World} {cs:List Value} {d:DevP} (h:DevV w cs d):∃ An cn Av cv As cs' Ag cg Am cm,cs=E3 d An cn Av cv As cs' Ag cg Am cm∧DevAt w d An cn Av cv As cs' Ag cg Am cm:=by
 obtain ⟨a1,a2,a3,a4,a5,a6,a7,a8,vn,vv,vs,vg,vm,e,h1,h2,h3,h4,h5⟩:=h
 obtain ⟨An,cn,rfl,_⟩:=h1.ctor
 obtain ⟨Av,cv,rfl,_⟩:=h2.ctor
 obtain ⟨As,cs',rfl,_⟩:=h3.ctor
 obtain ⟨Ag,cg,rfl,_⟩:=h4.ctor
 obtain ⟨Am,cm,rfl,_⟩:=h5.ctor
 exact ⟨An,cn,Av,cv,As,cs',Ag,cg,Am,cm,e,a1,a2,a3,a4,a5,a6,a7,a8,h1,h2,h3,h4,h5⟩
theorem DevRow.at {w:World} {A:Option Addr} {n c:Nat} {l:List DevP} (h:DevRow w (.slice A n c) l) {i:Nat} (hi:i<l.length) :
  ∃ b o An cn Av cv As cs Ag cg Am cm,A=some ⟨b,o,none⟩∧DevAt w (l.getD i dev0) An cn Av cv As cs Ag cg Am cm∧
   ∀ j,j<13→w.cell? ⟨b,o+i*13+j,none⟩=(E3 (l.getD i dev0) An cn Av cv As cs Ag cg Am cm)[j]?:=by
 obtain ⟨A0,c0,he,h1,h2,h4⟩:=h
 injection he with e1 e2 e3
 subst e1
 obtain ⟨b,o,rfl,hc⟩:=h4 (by omega)
 obtain ⟨cs,hv,hcell⟩:=hc i hi
 obtain ⟨An,cn,Av,cv,As,cs',Ag,cg,Am,cm,rfl,hd⟩:=hv.open
 exact ⟨b,o,An,cn,Av,cv,As,cs',Ag,cg,Am,cm,rfl,hd,hcell⟩
end
section
open Go.RowKit Go.Maps
structure N6 (w:World) (b o:Nat) (d:DevP) (An:Option Addr) (cn:Nat) (Av:Option Addr) (cv:Nat) (As:Option Addr) (cs:Nat) (Ag:Option Addr) (cg:Nat) (Am:Option Addr) (cm:Nat):Prop where
 c0:w.cell? ⟨b,o,none⟩=some (.int .u8 d.kind)
 c1:w.cell? ⟨b,o+1,none⟩=some (.string d.name)
 c2:w.cell? ⟨b,o+2,none⟩=some (.slice An d.nodes.length cn)
 c3:w.cell? ⟨b,o+3,none⟩=some (.int .i64 d.ref)
 c4:w.cell? ⟨b,o+4,none⟩=some (.int .i64 d.val.1)
 c5:w.cell? ⟨b,o+5,none⟩=some (.int .i64 d.val.2)
 c6:w.cell? ⟨b,o+6,none⟩=some (.int .i64 d.wkind)
 c7:w.cell? ⟨b,o+7,none⟩=some (.slice Av d.wvals.length cv)
 c8:w.cell? ⟨b,o+8,none⟩=some (.slice As d.wsteps.length cs)
 c9:w.cell? ⟨b,o+9,none⟩=some (.string d.mname)
 c10:w.cell? ⟨b,o+10,none⟩=some (.int .u8 d.mkind)
 c11:w.cell? ⟨b,o+11,none⟩=some (.slice Ag d.mg.length cg)
 c12:w.cell? ⟨b,o+12,none⟩=some (.slice Am d.mv.length cm)
theorem DevRow.at2 {w:World} {A:Option Addr} {n c:Nat} {l:List DevP} (h:DevRow w (.slice A n c) l) {i:Nat} (hi:i<l.length) :
  ∃ b o An cn Av cv As cs Ag cg Am cm,A=some ⟨b,o,none⟩∧DevAt w (l.getD i dev0) An cn Av cv As cs Ag cg Am cm∧N6 w b (o+i*13) (l.getD i dev0) An cn Av cv As cs Ag cg Am cm:=by
 obtain ⟨b,o,An,cn,Av,cv,As,cs,Ag,cg,Am,cm,e,h1,h2⟩:=h.at hi
 exact ⟨b,o,An,cn,Av,cv,As,cs,Ag,cg,Am,cm,e,h1,h2 0 (by omega),h2 1 (by omega),h2 2 (by omega),h2 3 (by omega),h2 4 (by omega),h2 5 (by omega),h2 6 (by omega),h2 7 (by omega),h2 8 (by omega),h2 9 (by omega),h2 10 (by omega),h2 11 (by omega),h2 12 (by omega)⟩
structure DevBox (w:World) (b:Nat) (d:DevP) (An:Option Addr) (cn:Nat) (Av:Option Addr) (cv:Nat) (As:Option Addr) (cs:Nat) (Ag:Option Addr) (cg:Nat) (Am:Option Addr) (cm:Nat):Prop where
 c0:w.cell? ⟨b,0,none⟩=some (.int .u8 d.kind)
 c1:w.cell? ⟨b,1,none⟩=some (.string d.name)
 c2:w.cell? ⟨b,2,none⟩=some (.slice An d.nodes.length cn)
 c3:w.cell? ⟨b,3,none⟩=some (.int .i64 d.ref)
 c4:w.cell? ⟨b,4,none⟩=some (.int .i64 d.val.1)
 c5:w.cell? ⟨b,5,none⟩=some (.int .i64 d.val.2)
 c6:w.cell? ⟨b,6,none⟩=some (.int .i64 d.wkind)
 c7:w.cell? ⟨b,7,none⟩=some (.slice Av d.wvals.length cv)
 c8:w.cell? ⟨b,8,none⟩=some (.slice As d.wsteps.length cs)
 c9:w.cell? ⟨b,9,none⟩=some (.string d.mname)
 c10:w.cell? ⟨b,10,none⟩=some (.int .u8 d.mkind)
 c11:w.cell? ⟨b,11,none⟩=some (.slice Ag d.mg.length cg)
 c12:w.cell? ⟨b,12,none⟩=some (.slice Am d.mv.length cm)
theorem DevBox.of {w:World} {b:Nat} {d:DevP} {An Av As Ag Am:Option Addr} {cn cv cs cg cm:Nat} (h:Blk w b #[.int .u8 d.kind,.string d.name,.slice An d.nodes.length cn,.int .i64 d.ref,.int .i64 d.val.1,.int .i64 d.val.2,.int .i64 d.wkind,.slice Av d.wvals.length cv,.slice As d.wsteps.length cs,.string d.mname,.int .u8 d.mkind,.slice Ag d.mg.length cg,.slice Am d.mv.length cm]):DevBox w b d An cn Av cv As cs Ag cg Am cm :=
 ⟨h.cell 0,h.cell 1,h.cell 2,h.cell 3,h.cell 4,h.cell 5,h.cell 6,h.cell 7,h.cell 8,h.cell 9,h.cell 10,h.cell 11,h.cell 12⟩
theorem DevBox.more {w w':World} {b:Nat} {d:DevP} {An Av As Ag Am:Option Addr} {cn cv cs cg cm:Nat} (h:DevBox w b d An cn Av cv As cs Ag cg Am cm) (hg:w.grownBy w' none):DevBox w' b d An cn Av cv As cs Ag cg Am cm :=
 ⟨Aj hg h.c0 (by simp),Aj hg h.c1 (by simp),Aj hg h.c2 (by simp),Aj hg h.c3 (by simp),Aj hg h.c4 (by simp),Aj hg h.c5 (by simp),Aj hg h.c6 (by simp),Aj hg h.c7 (by simp),Aj hg h.c8 (by simp),Aj hg h.c9 (by simp),Aj hg h.c10 (by simp),Aj hg h.c11 (by simp),Aj hg h.c12 (by simp)⟩
theorem Ep {a b c:World} {v:Value} (h:a.grownBy b none) (k:b.grownBy c v.ownBlock) (hf:From a.heap.size v):a.grownBy c none :=
 ⟨k.os.trans h.os,k.tape.trans h.tape,k.output.trans h.output,Nat.le_trans h.size k.size,fun i hi _ =>
  (k.block i (Nat.lt_of_lt_of_le hi h.size) (fun e=>by have:=hf i e.symm;omega)).trans (h.block i hi (by simp))⟩
theorem Cm:(Tryz.prog.info? 3).map (fun i=>(i.zero,i.size,i.bytes))=some (some (.int .i64 0),1,8):=by kernel_rfl
def isBr (k:Int):Bool:=decide (k=118)||decide (k=101)||decide (k=104)||decide (k=99)||decide (k=108)||decide (k=116)
theorem A0g (k:Int) (h0:0≤k) (h1:k≤255):decide (0≤Lib.indexByte [118,101,104,99,108,116] k.toNat.toUInt8)=isBr k:=by
 have h:∀ n:Fin 256,decide (0≤Lib.indexByte [118,101,104,99,108,116] (n.val:Int).toNat.toUInt8)=isBr (n.val:Int):=by decide +kernel
 have:=h ⟨k.toNat,by omega⟩
 simp only [show ((k.toNat:Nat):Int)=k by omega] at this
 exact this
def nbr (ds:List DevP) (t:Nat):Nat:=((ds.take t).filter fun d=>isBr d.kind).length
theorem Up (ds:List DevP) (t:Nat):nbr ds t≤t:=Nat.le_trans (List.length_filter_le _ _) (List.length_take_le _ _)
theorem Hx {ds:List DevP} {t:Nat} (h:t<ds.length):nbr ds (t+1)=nbr ds t+(if isBr (ds.getD t dev0).kind then 1 else 0):=by
 unfold nbr
 rw [List.take_succ_eq_append_getElem h,List.filter_append,List.length_append]
 have:ds.getD t dev0=ds[t]:=by simp [List.getD,List.getElem?_eq_getElem h]
 rw [this]
 by_cases hb:isBr ds[t].kind=true<;>simp [hb,List.filter_cons]
def brAt (ds:List DevP) (n0:Int) (i:Nat):Int:=if isBr (ds.getD i dev0).kind then n0+nbr ds i else -1
def brs (ds:List DevP) (n0:Int) (t:Nat):List Int:=(List.range t).map (brAt ds n0)
theorem Ub (ds:List DevP) (n0:Int) (t:Nat):(brs ds n0 t).length=t:=by simp [brs]
theorem Ya (ds:List DevP) (n0:Int) (t:Nat):brs ds n0 (t+1)=brs ds n0 t++[brAt ds n0 t]:=by simp [brs,List.range_succ]
theorem F4 (l r:List Int):ints (l++r)=ints l++ints r:=by simp [ints]
set_option maxRecDepth 100000 in
theorem Mg (w:World) (vn vd:Value) (s1 s2 me:Int) (nodes:List ByteArray) (ds:List DevP) (hn:Row w vn (strs nodes)) (hd:DevRow w vd ds) (hl1:nodes.length≤1099511627776) (hl2:ds.length≤1099511627776) :
  Calls Tryz.prog 135 #[.agg #[vn,vd,.int .i64 s1,.int .i64 s2,.int .i64 me]] w fun e w'=>∃ v,e=.returned (.tuple #[.int .i64 ((nodes.length:Int)-1+nbr ds ds.length),v])∧Row w' v (ints (brs ds ((nodes.length:Int)-1) ds.length))∧From w.heap.size v∧w.grownBy w' none:=by
 have HD:=Ac hd
 obtain ⟨A1,c1,rfl,a1,a2,_⟩:=hn
 obtain ⟨A2,c2,rfl,b1,b2⟩:=hd.ctor
 rw [Bt] at *
 clear hd
 have gw:=Af w (.cells #[.slice A1 nodes.length c1,.slice A2 ds.length c2,.int .i64 s1,.int .i64 s2,.int .i64 me] 27) none
 have hB:=Blk.new w #[.slice A1 nodes.length c1,.slice A2 ds.length c2,.int .i64 s1,.int .i64 s2,.int .i64 me] 27
 have m0:(w.alloc (.cells #[.slice A1 nodes.length c1,.slice A2 ds.length c2,.int .i64 s1,.int .i64 s2,.int .i64 me] 27)).cell? ⟨w.heap.size,0,none⟩=some (.slice A1 nodes.length c1):=hB.cell 0
 have m1:(w.alloc (.cells #[.slice A1 nodes.length c1,.slice A2 ds.length c2,.int .i64 s1,.int .i64 s2,.int .i64 me] 27)).cell? ⟨w.heap.size,1,none⟩=some (.slice A2 ds.length c2):=hB.cell 1
 have hs1:=gw.size
 go_enter Tryz.func135,Tryz.ntmps135
 go_wp2_with fail
 generalize w.alloc (.cells #[.slice A1 nodes.length c1,.slice A2 ds.length c2,.int .i64 s1,.int .i64 s2,.int .i64 me] 27)=wa at *
 generalize hsz:w.heap.size=s at *
 go_loopw [4,5,16] (fun n v i wr=>∃ k:Nat,k≤ds.length∧i=.int .i64 k∧n=.int .i64 ((nodes.length:Int)-1+(nbr ds k:Nat))∧wr.ownsRow wa.heap.size 3 1 v k (ints (brs ds ((nodes.length:Int)-1) k))∧wa.grownBy wr none) (fun _ _ i _=>(ds.length-intOf i).toNat)
 case atStart=>exact ⟨0,by omega,rfl,by simp [nbr],World.ownsRow_nil _ _ _ _,Al _ _⟩
 case round =>
  obtain ⟨k,hk,rfl,rfl,hown,hg⟩:=hrel
  have hnb:=Up ds k
  by_cases hlt:k<ds.length
  ·obtain ⟨b,o,An,cn,Av,cv,As,cs,Ag,cg,Am,cm,rfl,hat,hc⟩:=(HD.out.more (Ae gw hg)).at2 hlt
   have hbs:=Ya ds ((nodes.length:Int)-1) k
   have hnsu:=Hx hlt
   have hbr:brAt ds ((nodes.length:Int)-1) k=if isBr (ds.getD k dev0).kind then ((nodes.length:Int)-1)+nbr ds k else -1:=rfl
   generalize ds.getD k dev0=d at *
   obtain ⟨q0,q1,q2,q3,q4,q5,q6,q7,q8,q9,q10,q11,q12⟩:=hc
   have ga:=Af wr (.cells #[.int .u8 d.kind,.string d.name,.slice An d.nodes.length cn,.int .i64 d.ref,.int .i64 d.val.1,.int .i64 d.val.2,.int .i64 d.wkind,.slice Av d.wvals.length cv,.slice As d.wsteps.length cs,.string d.mname,.int .u8 d.mkind,.slice Ag d.mg.length cg,.slice Am d.mv.length cm] 89) none
   obtain ⟨p0,-,-,-,-,-,-,-,-,-,-,-,-⟩:=DevBox.of (Blk.new wr #[.int .u8 d.kind,.string d.name,.slice An d.nodes.length cn,.int .i64 d.ref,.int .i64 d.val.1,.int .i64 d.val.2,.int .i64 d.wkind,.slice Av d.wvals.length cv,.slice As d.wsteps.length cs,.string d.mname,.int .u8 d.mkind,.slice Ag d.mg.length cg,.slice Am d.mv.length cm] 89)
   have hix:=Tryz.strings_IndexByte ⟨#[118,101,104,99,108,116]⟩ d.kind
   have hib:=A0g d.kind hat.kind.1 hat.kind.2
   have hown2:=hown.alloc (.cells #[.int .u8 d.kind,.string d.name,.slice An d.nodes.length cn,.int .i64 d.ref,.int .i64 d.val.1,.int .i64 d.val.2,.int .i64 d.wkind,.slice Av d.wvals.length cv,.slice As d.wsteps.length cs,.string d.mname,.int .u8 d.mkind,.slice Ag d.mg.length cg,.slice Am d.mv.length cm] 89)
   have HIX:=Ac hix
   have HBS:=Ac hbs
   clear hix hbs
   cases hb:isBr d.kind with
   | true =>
    rw [hb] at hib hnsu hbr
    rw [if_pos rfl] at hnsu hbr
    have HB:=Ac (And.intro hnsu hbr)
    have HI:=Ac (of_decide_eq_true hib)
    clear hnsu hbr hib hb
    go_wp2_with fail
    generalize wr.alloc (.cells #[.int .u8 d.kind,.string d.name,.slice An d.nodes.length cn,.int .i64 d.ref,.int .i64 d.val.1,.int .i64 d.val.2,.int .i64 d.wkind,.slice Av d.wvals.length cv,.slice As d.wsteps.length cs,.string d.mname,.int .u8 d.mkind,.slice Ag d.mg.length cg,.slice Am d.mv.length cm] 89)=wb at *
    refine (HIX.out _).mono ?_
    rintro e w1 ⟨rfl,rfl⟩
    generalize Lib.indexByte _ _=z at *
    have hi:=HI.out
    have hsb:=(Ae hg ga).size
    go_wp2_with (first
     | (at_builtin;refine Fp wa.heap.size rfl (.tmp 27) (.tmp 29) 30 3 (.int .i64 0) 1 8 rfl Tryz.underlying30 Cm rfl (by omega) (by omega) u5 k (ints (brs ds ((nodes.length:Int)-1) k)) #[.int .i64 ((nodes.length:Int)-1+(nbr ds k:Nat))] (by rfl) hown2 (by rfl) rfl (by simp [Value.oneCell']) (by omega) (by omega) ?_;intro v1 w1 hown1 hg1 hat1)
     | go_in)
    go_roundw
    case rel=>exact ⟨k+1,by omega,by go_num,Bl (by rw [HB.out.1];omega),by rw [HBS.out,HB.out.2,F4];exact hown1,Ep (Ae hg ga) hg1 (D4 hown2)⟩
    case measure=>simp [intOf];omega
   | false =>
    rw [hb] at hib hnsu hbr
    rw [if_neg (by simp)] at hnsu hbr
    have HB:=Ac (And.intro hnsu hbr)
    have HI:=Ac (of_decide_eq_false hib)
    clear hnsu hbr hib hb
    go_wp2_with fail
    generalize wr.alloc (.cells #[.int .u8 d.kind,.string d.name,.slice An d.nodes.length cn,.int .i64 d.ref,.int .i64 d.val.1,.int .i64 d.val.2,.int .i64 d.wkind,.slice Av d.wvals.length cv,.slice As d.wsteps.length cs,.string d.mname,.int .u8 d.mkind,.slice Ag d.mg.length cg,.slice Am d.mv.length cm] 89)=wb at *
    refine (HIX.out _).mono ?_
    rintro e w1 ⟨rfl,rfl⟩
    generalize Lib.indexByte _ _=z at *
    have hi:=HI.out
    have hsb:=(Ae hg ga).size
    go_wp2_with (first
     | (at_builtin;refine Fp wa.heap.size rfl (.tmp 27) (.tmp 29) 30 3 (.int .i64 0) 1 8 rfl Tryz.underlying30 Cm rfl (by omega) (by omega) u5 k (ints (brs ds ((nodes.length:Int)-1) k)) #[.int .i64 (-1)] (by rfl) hown2 (by rfl) rfl (by simp [Value.oneCell']) (by omega) (by omega) ?_;intro v1 w1 hown1 hg1 hat1)
     | go_in)
    go_roundw
    case rel=>exact ⟨k+1,by omega,by go_num,Bl (by rw [HB.out.1];omega),by rw [HBS.out,HB.out.2,F4];exact hown1,Ep (Ae hg ga) hg1 (D4 hown2)⟩
    case measure=>simp [intOf];omega
  ·obtain rfl:k=ds.length:=by omega
   have hr:=E5 hown
   have hf:=D4 hown
   have HR:=Ac hr
   clear hr
   go_wp2
   go_ret2
   exact ⟨_,rfl,HR.out,hf.mono (by omega),Ae gw hg⟩
end
section
open Go.RowKit Go.Maps
open Rat
def NoD (l:List Value):Prop:=∀ u∈l,∀ n,u≠.int .u32 n
def OwnQ (w:World) (base:Nat) (e:TypeId) (size:Nat) (v:Value) (n:Nat) (xs:List Value):Prop :=
 w.ownsRow base e size v n xs∧∀ g,v.ownBlock=some g→Dt w g
theorem OwnQ.nil (w:World) (base:Nat) (e:TypeId) (size:Nat):OwnQ w base e size (.slice none 0 0) 0 []:=⟨World.ownsRow_nil _ _ _ _,fun g h=>by simp [Value.ownBlock] at h⟩
theorem C1 {w:World} {g:Nat} {cs:Array Value} {T:TypeId} {fr:Nat × Nat} (h:w.heap[g]? = some (.cells cs T fr)) (hn:NoD cs.toList):Dt w g:=by
 intro o n he
 rw [Ay h] at he
 have:(Value.int .u32 n)∈cs.toList:=by
  obtain ⟨ho,hv⟩:=Array.getElem?_eq_some_iff.1 he
  rw [←hv];simp
 exact hn _ this n rfl
theorem Gb {w:World} {g:Nat} {cs:Array Value} {T:TypeId} {fr:Nat × Nat} (h:w.heap[g]? = some (.cells cs T fr)) (hp:Dt w g):NoD cs.toList:=by
 intro u hu n he
 subst he
 obtain ⟨i,hi,hv⟩:=List.mem_iff_getElem.1 hu
 refine hp i n ?_
 rw [Ay h]
 rw [Array.getElem?_eq_some_iff]
 exact ⟨by simpa using hi,by simpa using hv⟩
theorem NoD.append {l r:List Value} (h:NoD l) (k:NoD r):NoD (l++r):=fun u hu=>by
 rcases List.mem_append.1 hu with hu | hu
 ·exact h u hu
 ·exact k u hu
theorem NoD.zero {z:Array Value} (h:NoD z.toList) (n:Nat):NoD (Builtin.zeroCells z n).toList:=by
 intro u hu
 simp [Builtin.zeroCells] at hu
 obtain ⟨k,hk,hu⟩:=hu
 have hs:0<z.size:=by
  rcases Nat.eq_zero_or_pos z.size with h0 | h0
  ·rw [h0] at hk;omega
  ·exact h0
 rw [getElem!_pos z _ (Nat.mod_lt k hs)] at hu
 exact h u (by rw [←hu];simp)
theorem OwnQ.more {w w':World} {base:Nat} {e:TypeId} {size n:Nat} {v:Value} {xs:List Value} (h:OwnQ w base e size v n xs) (hg:w.grownBy w' none):OwnQ w' base e size v n xs:=by
 refine ⟨h.1.kept hg (by cases v.ownBlock<;>simp),fun g hv=>?_⟩
 have hp:=h.2 g hv
 rcases h.1.2 with ⟨rfl,_⟩ | ⟨g',cap,cur,rfl,_,hh,_⟩
 ·simp [Value.ownBlock] at hv
 ·obtain rfl:g'=g:=by simpa [Value.ownBlock] using hv
  exact C1 (Do hg hh (by simp)) (Gb hh hp)
theorem OwnQ.other {w w':World} {base:Nat} {e:TypeId} {size n r:Nat} {v:Value} {xs:List Value} (h:OwnQ w base e size v n xs) (hg:w.grownBy w' (some r)) (hne:v.ownBlock≠some r):OwnQ w' base e size v n xs:=by
 refine ⟨h.1.kept hg (.inr hne),fun g hv=>?_⟩
 have hp:=h.2 g hv
 rcases h.1.2 with ⟨rfl,_⟩ | ⟨g',cap,cur,rfl,_,hh,_⟩
 ·simp [Value.ownBlock] at hv
 ·obtain rfl:g'=g:=by simpa [Value.ownBlock] using hv
  exact C1 (Do hg hh (fun e=>hne (by rw [hv,e]))) (Gb hh hp)
theorem Pm {P:Program} {w:World} (base:Nat) (t ty e:TypeId) (i:TypeInfo) (z:Value) (size bytes:Nat) (ht:P.underlying t=some (.slice e)) (hi:P.info? e=some i) (hz:i.zero=some z)
  (hsize:i.size=size) (hby:i.bytes=bytes) (hzs:z.cells.size=size) (hsz:0<size)
  (v:Value) (n:Nat) (xs:List Value) (hown:OwnQ w base e size v n xs)
  (a:Addr) (news:List Value) (hl:news.length=size) (hnews:∀ j u,news[j]? = some u→w.cell? (a.add j)=some u) (h1:∀ u∈news,u.oneCell'=true)
  (hbytes:(n+1)*bytes≤140737488355328) (hb0:0<bytes) (hbase:base≤w.heap.size) (hnd:NoD news) (hzd:NoD z.cells.toList) :
  ∃ v' w',(Builtin.append_ #[t,t] ty #[v,.slice (some a) 1 1]).run P w=.ok v' w'∧OwnQ w' base e size v' (n+1) (xs++news)∧w.grownBy w' v.ownBlock∧(v'.ownBlock=v.ownBlock∨v'.ownBlock=some w.heap.size):=by
 have hlen:n+1≤140737488355328:=Nat.le_trans (Nat.le_mul_of_pos_right _ hb0) hbytes
 obtain ⟨v',w',hr,h2,h3,_,h5⟩:=run_append_own_at (P:=P) w base t ty e i z size bytes ht hi hz hsize hby hzs hsz v n xs hown.1 a 1 1 news (by omega) hnews h1 (by simp only [maxLen];omega) hbytes hbase
 refine ⟨v',w',hr,⟨h2,?_⟩,h3,h5⟩
 intro g hg
 subst hsize hby
 rcases hown.1.2 with ⟨rfl,hn0⟩ | ⟨g0,cap,cur,rfl,hbg,hgh,hnc,hcm,hcs,htake⟩
 ·have hx:xs=[]:=List.eq_nil_of_length_eq_zero (by have:=hown.1.1;rw [hn0] at this;simpa using this)
  subst hn0
  have hr':=run_append_nil (P:=P) w t ty e i z ht hi hz a 1 1 news (by omega) hnews (by omega) (by omega) (by omega)
  rw [hr] at hr'
  injection hr' with e1 e2
  subst e1 e2
  obtain rfl:w.heap.size=g:=by simpa [Value.ownBlock] using hg
  exact C1 (Bi w.drew _) (by simp only [Array.toList_append];exact hnd.append (hzd.zero _))
 ·have hcd:=Gb hgh (hown.2 g0 rfl)
  by_cases hroom:n+1≤cap
  ·have hfit:n*i.size+news.length≤cur.size:=by rw [hl,hcs,←Nat.succ_mul];exact Nat.mul_le_mul_right _ hroom
   have hr':=run_append_room (P:=P) w t ty e i ht hi g0 n cap cur hgh a 1 1 news (by omega) hnews h1 hroom hfit
   rw [hr] at hr'
   injection hr' with e1 e2
   subst e1 e2
   obtain rfl:g0=g:=by simpa [Value.ownBlock] using hg
   refine C1 (setRow_heap w g0 cur _ e _ hgh) ?_
   simp only []
   exact (NoD.append (fun u hu=>hcd u (List.mem_of_mem_take hu)) hnd).append (fun u hu=>hcd u (List.mem_of_mem_drop hu))
  ·have holds:∀ j u,xs[j]? = some u→w.cell? ((⟨g0,0,none⟩:Addr).add j)=some u:=hown.1.cells (g:=g0) rfl
   have hr':=run_append_grow (P:=P) w t ty e i z ht hi hz ⟨g0,0,none⟩ n cap xs hown.1.1 holds a 1 1 news (by omega) hnews (by omega) (by omega) (growslice_fits (by omega) hbytes)
   rw [hr] at hr'
   injection hr' with e1 e2
   subst e1 e2
   obtain rfl:w.heap.size=g:=by simpa [Value.ownBlock] using hg
   refine C1 (Bi w.drew _) ?_
   simp only [Array.toList_append]
   exact (NoD.append (fun u hu=>hcd u (by rw [←htake] at hu;exact List.mem_of_mem_take hu)) hnd).append (hzd.zero _)
/-! ### stamps -/
structure StampP where
 kind:Int
 row:Int
 col:Int
 val:Rat
def StampR (w:World) (cs:List Value) (s:StampP):Prop :=
 I64 s.kind∧I64 s.row∧I64 s.col∧∃ A1 n1 c1 A2 n2 c2,cs=[.int .i64 s.kind,.int .i64 s.row,.int .i64 s.col,.bool (decide (s.val.num<0)),.slice A1 n1 c1,.bool false,.slice A2 n2 c2]∧
  Nums w (.slice A1 n1 c1) (digs s.val.num)∧Nums w (.slice A2 n2 c2) (digs (s.val.den:Int))
def StampsR (w:World) (xs:List Value):List StampP→Prop
 | []=>xs=[]
 | s::L=>∃ cs rest,xs=cs++rest∧StampR w cs s∧StampsR w rest L
theorem StampsR.snoc {w:World} {cs:List Value} {s:StampP} (hs:StampR w cs s):∀ {xs:List Value} {L:List StampP},StampsR w xs L→StampsR w (xs++cs) (L++[s])
 | xs,[],h=>by
  have:xs=[]:=h
  subst this
  exact ⟨cs,[],by simp,hs,rfl⟩
 | xs,t::L,⟨c1,rest,e,h1,h2⟩=>⟨c1,rest++cs,by rw [e,List.append_assoc],h1,h2.snoc hs⟩
theorem StampR.other {w w':World} {cs:List Value} {s:StampP} {r:Nat} (h:StampR w cs s) (hg:w.grownBy w' (some r)) (hp:Dt w r):StampR w' cs s:=by
 obtain ⟨a,b,c,A1,n1,c1,A2,n2,c2,e,h1,h2⟩:=h
 exact ⟨a,b,c,A1,n1,c1,A2,n2,c2,e,h1.other hg hp,h2.other hg hp⟩
theorem StampR.more {w w':World} {cs:List Value} {s:StampP} (h:StampR w cs s) (hg:w.grownBy w' none):StampR w' cs s:=by
 obtain ⟨a,b,c,A1,n1,c1,A2,n2,c2,e,h1,h2⟩:=h
 exact ⟨a,b,c,A1,n1,c1,A2,n2,c2,e,h1.more hg,h2.more hg⟩
theorem StampsR.imp {w w':World} (hi:∀ cs s,StampR w cs s→StampR w' cs s):∀ {xs:List Value} {L:List StampP},StampsR w xs L→StampsR w' xs L
 | _,[],h=>h
 | _,_::_,⟨c1,rest,e,h1,h2⟩=>⟨c1,rest,e,hi _ _ h1,h2.imp hi⟩
theorem StampR.length {w:World} {cs:List Value} {s:StampP} (h:StampR w cs s):cs.length=7:=by
 obtain ⟨_,_,_,_,_,_,_,_,_,e,_⟩:=h;rw [e];rfl
theorem StampR.noD {w:World} {cs:List Value} {s:StampP} (h:StampR w cs s):NoD cs∧∀ u∈cs,u.oneCell'=true:=by
 obtain ⟨_,_,_,A1,n1,c1,A2,n2,c2,e,_⟩:=h
 subst e
 constructor
 ·intro u hu n
  simp only [List.mem_cons,List.not_mem_nil,or_false] at hu
  rcases hu with rfl | rfl | rfl | rfl | rfl | rfl | rfl<;>simp
 ·intro u hu
  simp only [List.mem_cons,List.not_mem_nil,or_false] at hu
  rcases hu with rfl | rfl | rfl | rfl | rfl | rfl | rfl<;>rfl
theorem StampsR.at {w:World}:∀ {xs:List Value} {L:List StampP},StampsR w xs L→∀ i (hi:i<L.length),∃ cs,StampR w cs L[i]∧∀ j,j<7→xs[i*7+j]? = cs[j]?
 | _,[],_,i,hi=>by simp at hi
 | _,s::L,⟨cs,rest,e,h1,h2⟩,0,hi=>⟨cs,h1,fun j hj=>by rw [e,List.getElem?_append_left (by rw [h1.length];omega)];congr 1;omega⟩
 | _,s::L,⟨cs,rest,e,h1,h2⟩,i+1,hi=>by
  obtain ⟨cs',h3,h4⟩:=h2.at i (by simpa using hi)
  refine ⟨cs',h3,fun j hj=>?_⟩
  rw [e,List.getElem?_append_right (by rw [h1.length];omega),h1.length,←h4 j hj]
  congr 1
  omega
theorem StampsR.length {w:World}:∀ {xs:List Value} {L:List StampP},StampsR w xs L→xs.length=L.length*7
 | _,[],h=>by have:_=[]:=h;subst this;rfl
 | _,_::L,⟨cs,rest,e,h1,h2⟩=>by rw [e,List.length_append,h1.length,h2.length,List.length_cons];omega
def put1 (kind r c:Int) (q:Rat):List StampP:=if r<0∨c<0 then [] else [⟨kind,r,c,q⟩]
theorem Xk:(Tryz.prog.info? 128).map (fun i=>(i.zero,i.size,i.bytes))=some (some (.agg #[.int .i64 0,.int .i64 0,.int .i64 0,.bool false,.slice none 0 0,.bool false,.slice none 0 0]),7,88):=by kernel_rfl
theorem OwnQ.form {w:World} {base:Nat} {e:TypeId} {size n:Nat} {v:Value} {xs:List Value} (h:OwnQ w base e size v n xs):∃ A c,v=.slice A n c:=by
 rcases h.1.2 with ⟨rfl,h0⟩ | ⟨g,cap,cur,rfl,_⟩
 ·exact ⟨none,0,by rw [h0]⟩
 ·exact ⟨_,_,rfl⟩
theorem OwnQ.row_plain {w:World} {base:Nat} {e:TypeId} {size n:Nat} {v:Value} {xs:List Value} (h:OwnQ w base e size v n xs):∀ r,v.ownBlock=some r→Dt w r:=h.2
theorem Nums.row {w w':World} {v:Value} {xs:List Nat} {row:Option Nat} (h:Nums w v xs) (hg:w.grownBy w' row) (hp:∀ r,row=some r→Dt w r):Nums w' v xs:=by
 cases row with
 | none=>exact h.more hg
 | some r=>exact h.other hg (hp r rfl)
theorem StampR.row {w w':World} {cs:List Value} {s:StampP} {row:Option Nat} (h:StampR w cs s) (hg:w.grownBy w' row) (hp:∀ r,row=some r→Dt w r):StampR w' cs s:=by
 cases row with
 | none=>exact h.more hg
 | some r=>exact h.other hg (hp r rfl)
theorem RatB.row {w w':World} {b:Nat} {q:Rat} {row:Option Nat} (h:RatB w b q) (hg:w.grownBy w' row) (hp:∀ r,row=some r→Dt w r) (hne:∀ r,row=some r→b≠r):RatB w' b q:=by
 cases row with
 | none=>exact h.more hg
 | some r=>exact h.other hg (hp r rfl) (hne r rfl)
theorem Blk.row {w w':World} {b:Nat} {cs:Array Value} {row:Option Nat} (h:Blk w b cs) (hg:w.grownBy w' row) (hne:row≠some b):Blk w' b cs:=by
 obtain ⟨T,h⟩:=h;exact ⟨T,Do hg h (fun e=>hne e.symm)⟩
theorem RatB.four {w:World} {b:Nat} {q:Rat} (h:RatB w b q):∃ cs T,cs.size=4∧w.heap[b]? = some (.cells cs T (0,0)):=by
 obtain ⟨v1,v2,d,T,_,hb,_⟩:=h
 exact ⟨_,T,rfl,hb⟩
theorem RatB.ne_own {w:World} {b:Nat} {q:Rat} (h:RatB w b q) {base:Nat} {e:TypeId} {n:Nat} {v:Value} {xs:List Value} (ho:OwnQ w base e 7 v n xs):∀ r,v.ownBlock=some r→b≠r:=by
 intro r hr hbr
 subst hbr
 obtain ⟨cs,T,h4,hb⟩:=h.four
 rcases ho.1.2 with ⟨rfl,_⟩ | ⟨g,cap,cur,rfl,_,hh,_,_,hcs,_⟩
 ·simp [Value.ownBlock] at hr
 ·obtain rfl:g=b:=by simpa [Value.ownBlock] using hr
  rw [hb] at hh
  injection hh with hh
  injection hh with e1 e2 e3
  subst e1
  omega
theorem RatB.ne_blk {w:World} {b p:Nat} {q:Rat} (h:RatB w b q) {cs:Array Value} (hp:Blk w p cs) (hs:cs.size≠4):b≠p:=by
 intro e
 subst e
 obtain ⟨cs',T,h4,hb⟩:=h.four
 obtain ⟨T',hp⟩:=hp
 rw [hb] at hp
 injection hp with hp
 injection hp with e1 e2 e3
 subst e1
 exact hs h4
theorem Fo {P:Program} {w:World} {ops:Array Oper} {o:Oper} {a:Act} {K:Act→World→Prop} {Q:Exit→Act→World→Prop} {E:Prop} (hgd:o.guard=none) (f:FuncId) (x:Operand) (ty:TypeId)
  (ho:o.op=.call { callee:=.value (.func f),args:=#[x],argTypes:=#[ty] }) (u:Value) (hu:a.eval x=u)
  (henter:∀ args w,(callFunc f args).run P w=.ok (.enter f args) w)
  (R:Value→World→Prop) (hC:Calls P f #[u] w fun e w'=>∃ v,e=.returned v∧R v w') (hK:∀ v w',R v w'→K (a.put o.dst v) w') :
  if Region.wanted o (yielded ops a.tmps)=true then Oper.wp P o a w K Q else E:=by
 have hw:Region.wanted o (yielded ops a.tmps)=true:=by simp [Region.wanted,hgd]
 rw [if_pos hw]
 have hf:a.eval (.func f)=.func (.func f) #[] #[]:=rfl
 have hrun:(execOp a.eval o).run P w=.ok (.enter f #[u]) w:=by
  generalize a.eval=ev at *
  simp [execOp,ho,resolve,invoke,hu,hf,henter,go_sem]
 unfold Oper.wp
 rw [hrun]
 simp only [Oper.upon]
 refine hC.mono ?_
 rintro e w' ⟨v,rfl,hr⟩
 exact hK v w' hr
theorem Og {P:Program} {w:World} (base:Nat) (t ty e:TypeId) (z:Value) (size bytes:Nat) (ht:P.underlying t=some (.slice e)) (hinfo:(P.info? e).map (fun i=>(i.zero,i.size,i.bytes))=some (some z,size,bytes)) (hzs:z.cells.size=size) (hsz:0<size) (hb0:0<bytes)
  (v:Value) (n:Nat) (xs:List Value) (hown:OwnQ w base e size v n xs)
  (B:Nat) (ys:Array Value) (T:TypeId) (fr:Nat × Nat) (hB:w.heap[B]? = some (.cells ys T fr)) (hl:ys.toList.length=size) (h1:∀ u∈ys.toList,u.oneCell'=true)
  (hbytes:(n+1)*bytes≤140737488355328) (hbase:base≤w.heap.size) (hnd:NoD ys.toList) (hzd:NoD z.cells.toList) :
  ∃ g cap w',(Builtin.append_ #[t,t] ty #[v,.slice (some ⟨B,0,none⟩) 1 1]).run P w=.ok (.slice (some ⟨g,0,none⟩) (n+1) cap) w'∧OwnQ w' base e size (.slice (some ⟨g,0,none⟩) (n+1) cap) (n+1) (xs++ys.toList)∧w.grownBy w' v.ownBlock∧(v.ownBlock=some g∨g=w.heap.size):=by
 obtain ⟨i,hi,hzz⟩:=Option.map_eq_some_iff.1 hinfo
 simp only [Prod.mk.injEq] at hzz
 obtain ⟨hz0,hz1,hz2⟩:=hzz
 obtain ⟨v',w',hr,h2,h3,h4⟩:=Pm (P:=P) (w:=w) base t ty e i z size bytes ht hi hz0 hz1 hz2 hzs hsz v n xs hown ⟨B,0,none⟩ ys.toList hl (World.news_of_block hB) h1 hbytes hb0 hbase hnd hzd
 rcases h2.1.2 with ⟨_,h0⟩ | ⟨g,cap,cur,rfl,_⟩
 ·omega
 ·refine ⟨g,cap,w',hr,h2,h3,?_⟩
  simp only [Value.ownBlock] at h4
  rcases h4 with h4 | h4
  ·exact .inl (by simpa [Value.ownBlock] using h4.symm)
  ·exact .inr (by simpa using h4)
theorem Cu {P:Program} {W:World} {ops:Array Oper} {rest:List Oper} {o:Oper} {a:Act} {Q:Exit→Act→World→Prop} (base:Nat) (hgd:o.guard=none) (s x:Operand) (t e:TypeId) (z:Value) (size bytes:Nat)
  (ho:o.op=.call { callee:=.builtin .append,args:=#[s,x],argTypes:=#[t,t] })
  (ht:P.underlying t=some (.slice e)) (hinfo:(P.info? e).map (fun i=>(i.zero,i.size,i.bytes))=some (some z,size,bytes)) (hzs:z.cells.size=size) (hsz:0<size) (hb0:0<bytes)
  (v:Value) (n:Nat) (xs:List Value) (ys:Array Value) (hs:a.eval s=v) (HO:OwnQ W base e size v n xs)
  (hx:a.eval x=.slice (some ⟨W.heap.size,0,none⟩) 1 1) (hl:ys.toList.length=size) (h1:∀ u∈ys.toList,u.oneCell'=true)
  (hbytes:(n+1)*bytes≤140737488355328) (hbase:base≤W.heap.size) (hnd:NoD ys.toList) (hzd:NoD z.cells.toList)
  (h:∀ g cap w1,OwnQ w1 base e size (.slice (some ⟨g,0,none⟩) (n+1) cap) (n+1) (xs++ys.toList)→(W.alloc (.cells ys e)).grownBy w1 v.ownBlock→wpList P ops Q rest (a.put o.dst (.slice (some ⟨g,0,none⟩) (n+1) cap)) w1) :
  wpList P ops Q (o::rest) a (W.alloc (.cells ys e)):=by
 obtain ⟨g,cap,w1,hr,h2,h3,_⟩:=Og (P:=P) (w:=W.alloc (.cells ys e)) base t o.type e z size bytes ht hinfo hzs hsz hb0 v n xs (HO.more (Af _ _ _)) W.heap.size ys e (0,0) (Bi _ _) hl h1 hbytes (by rw [World.size_alloc];omega) hnd hzd
 refine wpList_plain hgd fun K hK=>?_
 unfold Oper.wp execOp
 simp only [ho,resolve,invoke,builtin,Sem.run_bind,Sem.run_pure,Result.andThen_ok,List.map_toArray,List.map_cons,List.map_nil,hs,hx,hr]
 exact hK _ _ (h g cap w1 h2 h3)
theorem V9 {P:Program} {w:World} {ops:Array Oper} {o:Oper} {a:Act} {K:Act→World→Prop} {Q:Exit→Act→World→Prop} {E:Prop} (hgd:o.guard=none) (s x:Operand) (t:TypeId)
  (ho:o.op=.call { callee:=.builtin .append,args:=#[s,x],argTypes:=#[t,t] })
  (base:Nat) (e:TypeId) (z:Value) (size bytes:Nat) (ht:P.underlying t=some (.slice e)) (hinfo:(P.info? e).map (fun i=>(i.zero,i.size,i.bytes))=some (some z,size,bytes)) (hzs:z.cells.size=size) (hsz:0<size) (hb0:0<bytes)
  (v:Value) (n:Nat) (xs:List Value) (hs:a.eval s=v) (hown:OwnQ w base e size v n xs)
  (B:Nat) (ys:Array Value) (T:TypeId) (fr:Nat × Nat) (hB:w.heap[B]? = some (.cells ys T fr)) (hx:a.eval x=.slice (some ⟨B,0,none⟩) 1 1) (hl:ys.toList.length=size) (h1:∀ u∈ys.toList,u.oneCell'=true)
  (hbytes:(n+1)*bytes≤140737488355328) (hbase:base≤w.heap.size) (hnd:NoD ys.toList) (hzd:NoD z.cells.toList)
  (h:∀ g cap w',OwnQ w' base e size (.slice (some ⟨g,0,none⟩) (n+1) cap) (n+1) (xs++ys.toList)→w.grownBy w' v.ownBlock→(v.ownBlock=some g∨g=w.heap.size)→K (a.put o.dst (.slice (some ⟨g,0,none⟩) (n+1) cap)) w') :
  if Region.wanted o (yielded ops a.tmps)=true then Oper.wp P o a w K Q else E:=by
 have hw:Region.wanted o (yielded ops a.tmps)=true:=by simp [Region.wanted,hgd]
 rw [if_pos hw]
 obtain ⟨i,hi,hzz⟩:=Option.map_eq_some_iff.1 hinfo
 simp only [Prod.mk.injEq] at hzz
 obtain ⟨hz0,hz1,hz2⟩:=hzz
 obtain ⟨v',w',hr,h2,h3,h4⟩:=Pm (P:=P) (w:=w) base t o.type e i z size bytes ht hi hz0 hz1 hz2 hzs hsz v n xs hown ⟨B,0,none⟩ ys.toList hl (World.news_of_block hB) h1 hbytes hb0 hbase hnd hzd
 unfold Oper.wp execOp
 simp only [ho,resolve,invoke,builtin,Sem.run_bind,Sem.run_pure,Result.andThen_ok,List.map_toArray,List.map_cons,List.map_nil,hs,hx,hr]
 rcases h2.1.2 with ⟨_,h0⟩ | ⟨g,cap,cur,rfl,_⟩
 ·omega
 ·refine h g cap w' h2 h3 ?_
  simp only [Value.ownBlock] at h4
  rcases h4 with h4 | h4
  ·exact .inl (by simpa [Value.ownBlock] using h4.symm)
  ·exact .inr (by simpa using h4)
structure PenS (W0 w:World) (pb:Nat) (d:DevP) (An:Option Addr) (cn:Nat) (Av:Option Addr) (cv:Nat) (As:Option Addr) (cs:Nat) (Ag:Option Addr) (cg:Nat) (Am:Option Addr) (cm:Nat) (br:List Int) (k:Int) (L:List StampP):Prop where
 base:W0.heap.size≤pb
 grown:W0.grownBy w none
 dev:DevAt W0 d An cn Av cv As cs Ag cg Am cm
 pen:∃ Ab nb cb lv xs,Row W0 (.slice Ab nb cb) (ints br)∧Blk w pb #[.int .u8 d.kind,.string d.name,.slice An d.nodes.length cn,.int .i64 d.ref,.int .i64 d.val.1,.int .i64 d.val.2,.int .i64 d.wkind,.slice Av d.wvals.length cv,.slice As d.wsteps.length cs,.string d.mname,.int .u8 d.mkind,.slice Ag d.mg.length cg,.slice Am d.mv.length cm,.slice Ab nb cb,.int .i64 k,lv]∧OwnQ w W0.heap.size 128 7 lv L.length xs∧StampsR w xs L∧lv.ownBlock≠some pb
theorem Xe {w:World} {pb:Nat} {d:DevP} {An Av As Ag Am Ab:Option Addr} {cn cv cs cg cm nb cb:Nat} {k:Int} {A:Option Addr} {n c:Nat} (h:Blk w pb #[.int .u8 d.kind,.string d.name,.slice An d.nodes.length cn,.int .i64 d.ref,.int .i64 d.val.1,.int .i64 d.val.2,.int .i64 d.wkind,.slice Av d.wvals.length cv,.slice As d.wsteps.length cs,.string d.mname,.int .u8 d.mkind,.slice Ag d.mg.length cg,.slice Am d.mv.length cm,.slice Ab nb cb,.int .i64 k,.slice A n c]):Dt w pb:=by
 obtain ⟨T,h⟩:=h
 refine C1 h ?_
 intro u hu n
 simp only [List.mem_cons,List.not_mem_nil,or_false] at hu
 rcases hu with rfl | rfl | rfl | rfl | rfl | rfl | rfl | rfl | rfl | rfl | rfl | rfl | rfl | rfl | rfl | rfl<;>simp
theorem P5:NoD (Value.agg #[.int .i64 0,.int .i64 0,.int .i64 0,.bool false,.slice none 0 0,.bool false,.slice none 0 0]).cells.toList:=by
 intro u hu n
 simp [Value.cells] at hu
 rcases hu with rfl | rfl | rfl | rfl | rfl<;>simp
def Keeps (w w':World):Prop:=(∀ b q,RatB w b q→RatB w' b q)∧(∀ b (cs:Array Value),cs.size=4→Blk w b cs→Blk w' b cs)∧∀ v xs,Nums w v xs→Nums w' v xs
theorem Keeps.refl (w:World):Keeps w w:=⟨fun _ _ h=>h,fun _ _ _ h=>h,fun _ _ h=>h⟩
theorem Keeps.trans {a b c:World} (h:Keeps a b) (k:Keeps b c):Keeps a c:=⟨fun x q hx=>k.1 x q (h.1 x q hx),fun x cs h4 hx=>k.2.1 x cs h4 (h.2.1 x cs h4 hx),fun v xs hx=>k.2.2 v xs (h.2.2 v xs hx)⟩
theorem Keeps.more {a b:World} (h:a.grownBy b none):Keeps a b:=⟨fun _ _ hx=>hx.more h,fun _ _ _ hx=>hx.more h,fun _ _ hx=>hx.more h⟩
theorem A1v {w:World} {b:Nat} {cs ds:Array Value} (h:Blk w b cs) (k:Blk w b ds):cs=ds:=by
 obtain ⟨T,h⟩:=h
 obtain ⟨T',k⟩:=k
 rw [h] at k
 injection k with k
 injection k
theorem Y7 {w:World} {b:Nat} {cs:Array Value} (h:Blk w b cs) (h4:cs.size=4) {base:Nat} {e:TypeId} {n:Nat} {v:Value} {xs:List Value} (ho:OwnQ w base e 7 v n xs):v.ownBlock≠some b:=by
 intro hr
 obtain ⟨T,hb⟩:=h
 rcases ho.1.2 with ⟨rfl,_⟩ | ⟨g,cap,cur,rfl,_,hh,_,_,hcs,_⟩
 ·simp [Value.ownBlock] at hr
 ·obtain rfl:g=b:=by simpa [Value.ownBlock] using hr
  rw [hb] at hh
  injection hh with hh
  injection hh with e1 e2 e3
  subst e1
  omega
theorem A0m {W0 w w1 w3:World} {pb:Nat} {d:DevP} {An Av As Ag Am Ab:Option Addr} {cn cv cs cg cm nb cb:Nat} {br:List Int} {k:Int} {L:List StampP} {A:Option Addr} {c g cap:Nat} {xs:List Value} {s:StampP} {ys:Array Value} {T:TypeId}
  (hbase:W0.heap.size≤pb) (hgr:W0.grownBy w none) (hdev:DevAt W0 d An cn Av cv As cs Ag cg Am cm) (hbr:Row W0 (.slice Ab nb cb) (ints br)) (hown:OwnQ w W0.heap.size 128 7 (.slice A L.length c) L.length xs) (hst:StampsR w xs L) (hne:(Value.slice A L.length c).ownBlock≠some pb)
  (hblk:Blk w pb #[.int .u8 d.kind,.string d.name,.slice An d.nodes.length cn,.int .i64 d.ref,.int .i64 d.val.1,.int .i64 d.val.2,.int .i64 d.wkind,.slice Av d.wvals.length cv,.slice As d.wsteps.length cs,.string d.mname,.int .u8 d.mkind,.slice Ag d.mg.length cg,.slice Am d.mv.length cm,.slice Ab nb cb,.int .i64 k,.slice A L.length c])
  (hgw1:w.grownBy w1 none) (hsr:StampR w1 ys.toList s)
  (hblk3:Blk w3 pb #[.int .u8 d.kind,.string d.name,.slice An d.nodes.length cn,.int .i64 d.ref,.int .i64 d.val.1,.int .i64 d.val.2,.int .i64 d.wkind,.slice Av d.wvals.length cv,.slice As d.wsteps.length cs,.string d.mname,.int .u8 d.mkind,.slice Ag d.mg.length cg,.slice Am d.mv.length cm,.slice Ab nb cb,.int .i64 k,.slice A L.length c])
  (hown3:OwnQ w3 W0.heap.size 128 7 (.slice (some ⟨g,0,none⟩) (L.length+1) cap) (L.length+1) (xs++ys.toList))
  (hgrow:(w1.alloc (.cells ys T)).grownBy w3 (Value.slice A L.length c).ownBlock) (hat:(Value.slice A L.length c).ownBlock=some g∨g=(w1.alloc (.cells ys T)).heap.size) :
  PenS W0 (w3.setCell ⟨pb,15,none⟩ (.slice (some ⟨g,0,none⟩) (L.length+1) cap)) pb d An cn Av cv As cs Ag cg Am cm br k (L++[s])∧Keeps w (w3.setCell ⟨pb,15,none⟩ (.slice (some ⟨g,0,none⟩) (L.length+1) cap)):=by
 have ga:=Ae hgw1 (Af w1 (.cells ys T) none)
 have howna:=hown.more ga
 have hlt:=hblk.lt
 have hgp:g≠pb:=by
  rcases hat with h | h
  ·intro e;subst e;exact hne h
  ·have:=hgw1.size;rw [h,World.size_alloc];omega
 have hpl:=Xe hblk3
 refine ⟨⟨hbase,Aw (Ep (Ae hgr ga) hgrow (D4 hown.1)) (Au _ _ _ _) hbase,hdev,Ab,nb,cb,.slice (some ⟨g,0,none⟩) (L.length+1) cap,xs++ys.toList,hbr,?_,?_,?_,?_⟩,?_⟩
 ·exact hblk3.set 15 _
 ·have:=hown3.other (Au w3 pb 15 (.slice (some ⟨g,0,none⟩) (L.length+1) cap)) (by simp [Value.ownBlock];exact hgp)
  simpa using this
 ·refine StampsR.snoc ?_ ?_
  ·exact ((hsr.more (Af _ _ _)).row hgrow (howna.row_plain)).other (Au _ _ _ _) hpl
  ·exact hst.imp fun cs s h=>((h.more ga).row hgrow (howna.row_plain)).other (Au _ _ _ _) hpl
 ·simp [Value.ownBlock];exact hgp
 ·refine ⟨fun b q hx=>?_,fun b cs h4 hx=>?_,fun v xs hx=>?_⟩
  ·have h1:=hx.more ga
   have h3:=h1.row hgrow howna.row_plain (h1.ne_own howna)
   exact h3.other (Au _ _ _ _) hpl (h3.ne_blk hblk3 (by simp))
  ·have h1:=hx.more ga
   have h3:=h1.row hgrow (Y7 h1 h4 howna)
   refine h3.row (Au _ _ _ _) fun e=>?_
   injection e with e
   subst e
   have:=congrArg Array.size (A1v h3 hblk3)
   rw [h4] at this
   simp at this
  ·exact ((hx.more ga).row hgrow howna.row_plain).other (Au _ _ _ _) hpl
end
end Go.Proofs.YtckbiimikeiejaaGreatDoor
