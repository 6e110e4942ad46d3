/- LonA LonB. -/
import Derived.Test.YtckbiimikeiejaaGreatDoorMal
import Derived.Lib.SplitLaws
import Derived.Test.YtckbiimikeiejaaGreatDoorMau
import Derived.Test.YtckbiimikeiejaaGreatDoorMai
set_option linter.unusedVariables false
set_option linter.unusedSimpArgs false
set_option maxHeartbeats 40000000
namespace Go.Proofs.YtckbiimikeiejaaGreatDoor
section
open Go.RowKit
def segs:List UInt8→List UInt8→List (List UInt8)
 | cur,[]=>[cur]
 | cur,b::l=>if b=46 then cur::segs [] l else segs (cur++[b]) l
theorem Jf:∀ (l cur:List UInt8),(segs cur l).length=Lib.count l [46]+1
 | [],cur=>rfl
 | b::l,cur=>by
  unfold segs
  by_cases h:b=46
  ·subst h
   rw [if_pos rfl,Lib.count_cons_eq,List.length_cons,Jf l []];omega
  ·rw [if_neg h,Lib.count_cons_ne _ _ _ h,Jf l _]
theorem Kh:∀ (l cur:List UInt8),∃ x r,Lib.splitK [46] 0 (Lib.count l [46]) l=x::r∧segs cur l=(cur++x)::r
 | [],cur=>⟨[],[],rfl,by simp [segs]⟩
 | b::l,cur=>by
  by_cases h:b=46
  ·subst h
   obtain ⟨x,r,e1,e2⟩:=Kh l []
   refine ⟨[],x::r,?_,?_⟩
   ·rw [Lib.count_cons_eq,Nat.add_comm 1]
    unfold Lib.splitK
    have hi:Lib.index (46::l) [46]=0:=by simp [Lib.index,List.isPrefixOf]
    rw [hi]
    simp [e1]
   ·unfold segs
    rw [if_pos rfl,e2];simp
  ·obtain ⟨x,r,e1,e2⟩:=Kh l (cur++[b])
   rw [Lib.count_cons_ne _ _ _ h]
   unfold segs
   rw [if_neg h,e2]
   cases hc:Lib.count l [46] with
   | zero =>
    rw [hc] at e1
    injection e1 with e3 e4
    exact ⟨b::l,[],rfl,by rw [←e3,←e4];simp⟩
   | succ k =>
    rw [hc] at e1
    have hne:Lib.index l [46]≠-1:=fun h1=>by rw [Lib.count_miss h1] at hc;cases hc
    have hge:=Lib.index_ge l [46]
    have hi:Lib.index (b::l) [46]=Lib.index l [46]+1:=by
     rw [Lib.index,if_neg (by simp [List.isPrefixOf,beq_iff_eq];exact fun e=>h e.symm),if_neg (by simpa using hne)]
    unfold Lib.splitK at e1 ⊢
    rw [if_neg (by simpa using hne)] at e1
    rw [hi,if_neg (by simp;omega)]
    injection e1 with e3 e4
    obtain ⟨i,hi'⟩:∃ i:Nat,Lib.index l [46]=i:=⟨(Lib.index l [46]).toNat,by omega⟩
    rw [hi'] at e3 e4 ⊢
    have t1:((i:Int)+1).toNat=i+1:=by omega
    have t2:((i:Int)).toNat=i:=by omega
    rw [t2] at e3 e4
    refine ⟨b::x,r,?_,by simp⟩
    rw [t1,←e3,←e4]
    simp [List.drop_succ_cons]
theorem Si (s:ByteArray):D3 s=(decide ((segs [] s.data.toList).length≤9)&&(segs [] s.data.toList).all D9):=by
 unfold D3
 obtain ⟨x,r,e1,e2⟩:=Kh s.data.toList []
 have h:=Lib.splitB_data dot 0 (Lib.countB s dot) s
 have hd:dot.data.toList=[46]:=rfl
 rw [Jf]
 have e3:segs [] s.data.toList=(Lib.splitB dot 0 (Lib.countB s dot) s).map (·.data.toList):=by
  rw [h,e2,hd]
  show []++x::r=_
  rw [List.nil_append]
  exact e1.symm
 rw [e3,List.all_map]
 rfl
end
section
open Go.RowKit
theorem Row.str_at {w:World} {A:Option Addr} {n c:Nat} {l:List ByteArray} (h:Row w (.slice A n c) (strs l)) {i:Nat} (hi:i<l.length) :
  ∃ b o,A=some ⟨b,o,none⟩∧w.cell? ⟨b,o+i,none⟩=some (.string (l.getD i default)):=by
 rcases h.open with ⟨b,o,c',e,l1,l2,hc⟩ | ⟨_,_,_,_,_,h0⟩
 ·injection e with e1 e2 e3
  exact ⟨b,o,e1,(hc i (by rw [Bt];exact hi)).trans (I2 l i hi)⟩
 ·have:=congrArg List.length h0;rw [Bt] at this;exact absurd (show l.length=0 from this) (by omega)
def Sb (s:ByteArray) (l:List ByteArray):Bool:=l.any fun x=>decide (x=s)
theorem Jm {s:ByteArray} {l:List ByteArray}:Sb s l=true↔s∈l:=by
 unfold Sb
 rw [List.any_eq_true]
 exact ⟨fun ⟨x,h1,h2⟩=>by rw [←of_decide_eq_true h2];exact h1,fun h=>⟨s,h,by simp⟩⟩
theorem A13 {a b:ByteArray} (h:a.toList=b.toList):a=b:=by
 rw [Lib.toList_data,Lib.toList_data] at h
 exact ByteArray.ext (Array.toList_inj.1 h)
set_option maxRecDepth 100000 in
theorem Rh (w:World) (s:ByteArray) (v:Value) (l:List ByteArray) (hr:Row w v (strs l)) :
  Calls Tryz.prog 175 #[.string s,v] w fun e w'=>e=.returned (.bool (Sb s l))∧w.grownBy w' none:=by
 obtain ⟨D,hD⟩:∃ D,Sb s l=D:=⟨_,rfl⟩
 rw [hD]
 have HD:=Ac hD
 clear hD
 have HR:=Ac hr
 obtain ⟨A,c,rfl,h1,h2,_⟩:=hr
 rw [Bt] at *
 go_enter Tryz.func175,Tryz.ntmps175
 go_wp2_with fail
 go_loopw [5] (fun i wr=>∃ k:Nat,k≤l.length∧i=.int .i64 k∧w=wr∧Hid (∀ t,t<k→l.getD t default≠s)) (fun i _=>(l.length-intOf i).toNat)
 case atStart=>exact ⟨0,by omega,rfl,rfl,Ac (fun t ht=>by omega)⟩
 case round =>
  obtain ⟨k,hk,rfl,rfl,hb⟩:=hrel
  by_cases hlt:k<l.length
  ·obtain ⟨b,o,rfl,u⟩:=HR.out.str_at hlt
   generalize hx:l.getD k default=x at *
   have HX:=Ac hx
   clear hx
   by_cases hxs:x=s
   ·have t:(x.toList==s.toList)=true:=by rw [hxs];simp
    have HT:Hid (D=true):=Ac (by
     rw [←HD.out,Jm,←hxs,←HX.out]
     rw [show l.getD k default=l[k] by simp [List.getD,List.getElem?_eq_getElem hlt]]
     exact List.getElem_mem _)
    clear hxs
    go_wp2_with fail
    go_ret
    exact ⟨by rw [HT.out];rfl,Al _ _⟩
   ·have t:(x.toList==s.toList)=false:=by rw [beq_eq_false_iff_ne];exact fun h=>hxs (A13 h)
    have HXS:=Ac hxs
    clear hxs
    go_wp2_with fail
    exact ⟨⟨k+1,by omega,Bl (by omega),trivial,Ac (fun t ht=>by
     by_cases htk:t=k
     ·subst htk;rw [HX.out];exact HXS.out
     ·exact hb.out t (by omega))⟩,by simp [intOf];omega⟩
  ·have HF:Hid (D=false):=Ac (by
    rw [←HD.out,Bool.eq_false_iff,ne_eq,Jm]
    intro hm
    obtain ⟨j,hj,e⟩:=List.mem_iff_getElem.1 hm
    exact hb.out j (by omega) (by rw [show l.getD j default=l[j] by simp [List.getD,List.getElem?_eq_getElem hj]];exact e))
   have hge:¬ (k:Int)<(l.length:Int):=by omega
   clear hb
   go_wp2_with fail
   go_ret
   exact ⟨by rw [HF.out];rfl,Al _ _⟩
theorem Xo (l:List ByteArray) (k:Nat):(strs l).take k=strs (l.take k):=by simp [strs]
theorem O3 {l:List ByteArray} {k:Nat} (hk:k<l.length) (h:(l.take k).Nodup):(l.take (k+1)).Nodup↔l.getD k default∉l.take k:=by
 have e:l.take (k+1)=l.take k++[l.getD k default]:=by
  rw [List.take_succ_eq_append_getElem hk];simp [List.getD,List.getElem?_eq_getElem hk]
 rw [e,List.nodup_append]
 constructor
 ·intro hh hm;exact absurd rfl (hh.2.2 _ hm _ (by simp))
 ·intro hh
  refine ⟨h,by simp,fun a ha b hb e=>?_⟩
  simp at hb
  subst hb;subst e
  exact hh ha
set_option maxRecDepth 100000 in
theorem Ko (w:World) (v:Value) (l:List ByteArray) (hr:Row w v (strs l)) :
    Calls Tryz.prog 95 #[v] w fun e w'=>e=.returned (.bool (decide (¬ l.Nodup)))∧w.grownBy w' none:=by
  obtain ⟨D,hD⟩:∃ D,decide (¬ l.Nodup)=D:=⟨_,rfl⟩
  rw [hD]
  have HD:=Ac hD
  clear hD
  have HR:=Ac hr
  obtain ⟨A,c,rfl,h1,h2,_⟩:=hr
  rw [Bt] at *
  go_enter Tryz.func95,Tryz.ntmps95
  go_wp2_with fail
  go_loopw [3] (fun i wr=>∃ k:Nat,k≤l.length∧i=.int .i64 k∧w.grownBy wr none∧Hid ((l.take k).Nodup)) (fun i _=>(l.length-intOf i).toNat)
  case atStart=>exact ⟨0,by omega,rfl,Al _ _,Ac (by simp)⟩
  case round =>
    obtain ⟨k,hk,rfl,hg,hb⟩:=hrel
    by_cases hlt:k<l.length
    · have HRR:=Ac (HR.out.more hg)
      obtain ⟨b,o,rfl,u⟩:=HRR.out.str_at hlt
      generalize hx:l.getD k default=x at *
      have HX:=Ac hx
      clear hx
      obtain ⟨X,hX⟩:∃ X,Sb x (l.take k)=X:=⟨_,rfl⟩
      have HC:=Ac (fun p=>by
        have h:=Rh (gr wr p) x _ (l.take k) (by rw [←Xo];exact (HRR.out.more (Bc _ p)).take k (by rw [Bt];omega))
        rw [hX] at h;exact h)
      have HXX:=Ac hX
      have U:=fun p=>B8 u p
      have HG:=Ac hg
      have hkc:k≤c:=by omega
      clear hX hg u
      go_wp2_with fail
      (refine Bq (by kernel_rfl) (by kernel_rfl) ?_
       repeat (go_big_quiet_step ((go_at_call 175;exact Dc (HC.out _))))
       refine wpQuiet_nil ?_
       intro _ hw'
       obtain ⟨pq,hw''⟩:=hw'
       subst hw'')
      have hgq:=Bc wr pq
      generalize gr wr pq=wq at *
      cases X with
      | true =>
        have HT:Hid (D=true):=Ac (by
          rw [←HD.out,decide_eq_true_iff]
          intro hn
          have h2:(l.take (k+1)).Nodup:=hn.sublist (List.take_sublist _ _)
          rw [O3 hlt hb.out,HX.out] at h2
          exact h2 (Jm.1 HXX.out))
        go_wp2_with fail
        go_ret
        exact ⟨by rw [HT.out];rfl,Ae HG.out hgq⟩
      | false =>
        have HB:Hid ((l.take (k+1)).Nodup):=Ac (by rw [O3 hlt hb.out,HX.out];exact fun h=>by have:=Jm.2 h;rw [HXX.out] at this;cases this)
        go_wp2_with fail
        exact ⟨⟨k+1,by omega,Bl (by omega),Ae HG.out hgq,HB⟩,by simp [intOf];omega⟩
    · have HF:Hid (D=false):=Ac (by
        rw [←HD.out,decide_eq_false_iff_not,Classical.not_not]
        have:=hb.out
        rwa [List.take_of_length_le (by omega)] at this)
      have hge:¬ (k:Int)<(l.length:Int):=by omega
      clear hb
      go_wp2_with fail
      go_ret
      exact ⟨by rw [HF.out];rfl,hg⟩
theorem Zy (cur:List UInt8):segs cur []=[cur]:=rfl
theorem Zx (cur l:List UInt8):segs cur (46::l)=cur::segs [] l:=by rw [segs,if_pos rfl]
theorem V4 (cur l:List UInt8) {b:UInt8} (h:b≠46):segs cur (b::l)=segs (cur++[b]) l:=by rw [segs,if_neg h]
theorem A0d {l:List UInt8} {i:Nat} (h:i<l.length):l.drop i=l.getD i 0::l.drop (i+1):=by
 rw [List.drop_eq_getElem_cons h];simp [List.getD,List.getElem?_eq_getElem h]
theorem Xr {l:List UInt8} {f i:Nat} (hf:f≤i) (h:i<l.length):(l.drop f).take (i+1-f)=(l.drop f).take (i-f)++[l.getD i 0]:=by
 rw [show i+1-f=i-f+1 by omega,List.take_succ_eq_append_getElem (by rw [List.length_drop];omega)]
 congr 2
 rw [List.getElem_drop]
 simp [List.getD,List.getElem?_eq_getElem h,show f+(i-f)=i by omega]
def A1r (l:List UInt8) (i p f:Nat):Prop :=
 (i≤l.length∧f≤i∧∃ done,segs [] l=done++segs ((l.drop f).take (i-f)) (l.drop i)∧done.length=p∧done.all D9=true)∨(i=l.length+1∧(segs [] l).length=p∧(segs [] l).all D9=true)
set_option maxRecDepth 100000 in
theorem Ma (w:World) (s:ByteArray) (hs:s.size≤4611686018427387903) :
  Calls Tryz.prog 94 #[.string s] w fun e w'=>e=.returned (.bool (D3 s))∧w.grownBy w' none:=by
 rw [Si]
 have hlen:s.data.toList.length=s.size:=rfl
 have HL:=Ac hlen
 have HSZ:=Ac hs
 obtain ⟨D,hD⟩:∃ D,(decide ((segs [] s.data.toList).length≤9)&&(segs [] s.data.toList).all D9)=D:=⟨_,rfl⟩
 rw [hD]
 have HD:=Ac hD
 clear hD hlen
 generalize hn:s.size=n at *
 have HN:=Ac hn
 go_enter Tryz.func94,Tryz.ntmps94
 go_wp2_with fail
 go_loopw [3,4,5] (fun pv fv iv wr=>∃ i p f:Nat,iv=.int .i64 i∧pv=.int .i64 p∧fv=.int .i64 f∧Hid (i≤n+1∧f≤n+1∧p≤i∧A1r s.data.toList i p f)∧w.grownBy wr none) (fun _ _ iv _=>(n+1-intOf iv).toNat)
 case atStart=>exact ⟨0,0,0,rfl,rfl,rfl,Ac ⟨by omega,by omega,by omega,.inl ⟨by omega,by omega,[],by simp,rfl,rfl⟩⟩,Al _ _⟩
 case round =>
  obtain ⟨i,p,f,rfl,rfl,rfl,hst,hg⟩:=hrel
  obtain ⟨b1,b2,b3,hat⟩:=hst.out
  clear hst
  by_cases hlt:i≤n
  ·have hA:=hat.resolve_right (fun h=>by have:=HL.out;omega)
   obtain ⟨_,hfi,done,hseg,hdl,hda⟩:=hA
   have HSEG:=Ac hseg
   have HDL:=Ac hdl
   have HDA:=Ac hda
   clear hat hseg hdl hda
   have hcur:(s.extract f i).data.toList=(s.data.toList.drop f).take (i-f):=Lib.extract_data s f i
   have hcz:(s.extract f i).size≤4611686018427387904:=by
    have h1:(s.extract f i).data.toList.length≤s.data.toList.length:=by rw [hcur,List.length_take,List.length_drop];omega
    have h2:(s.extract f i).data.toList.length=(s.extract f i).size:=rfl
    have:=HL.out;have:=HSZ.out
    omega
   have HC:=Ac (Mb wr (s.extract f i) hcz)
   rw [hcur] at HC
   obtain ⟨X,hX⟩:∃ X,D9 ((s.data.toList.drop f).take (i-f))=X:=⟨_,rfl⟩
   rw [hX] at HC
   have HX:=Ac hX
   have HG:=Ac hg
   have f1:(f:Int)≤(i:Int):=by omega
   have f2:(i:Int)≤(n:Int):=by omega
   have f3:(0:Int)≤(f:Int):=by omega
   have hsz:=HSZ.out
   clear hcur hcz hX hg
   by_cases hin:i=n
   ·as_aux_lemma =>
     have t0:((i:Int)==(n:Int))=true:=by rw [hin];simp
     have HT:Hid (segs [] s.data.toList=done++[(s.data.toList.drop f).take (i-f)]):=Ac (by rw [HSEG.out,(show s.data.toList.drop i=[] from List.drop_of_length_le (by have:=HL.out;omega)),Zy])
     have HIN:=Ac hin
     clear hin
     go_wp2_with fail
     refine HC.out.mono ?_
     rintro e w1 ⟨rfl,hg1⟩
     cases X with
     | false =>
      have HF:Hid (D=false):=Ac (by rw [←HD.out,HT.out,List.all_append];simp [HX.out])
      go_wp2_with fail
      go_ret
      exact ⟨by rw [HF.out];rfl,Ae HG.out hg1⟩
     | true =>
      go_wp2_with fail
      exact ⟨⟨i+1,p+1,i+1,Bl (by omega),Bl (by omega),Bl (by omega),Ac ⟨by omega,by omega,by omega,.inr ⟨by have:=HL.out;have:=HIN.out;omega,by rw [HT.out,List.length_append,HDL.out];rfl,by rw [HT.out,List.all_append,HDA.out];simp [HX.out]⟩⟩,Ae HG.out hg1⟩,by simp [intOf];omega⟩
   ·have t0:((i:Int)==(n:Int))=false:=by rw [beq_eq_false_iff_ne];omega
    have hil:i<s.data.toList.length:=by have:=HL.out;omega
    have hb:i<s.size:=by omega
    have hsx:s[i]'hb=s.data.toList.getD i 0:=by
     rw [List.getD_eq_getElem?_getD,List.getElem?_eq_getElem hil]
     rfl
    have hd:=A0d hil
    have ht:=Xr hfi hil
    generalize hx:s.data.toList.getD i 0=x at *
    have HDX:=Ac hd
    have HTX:=Ac ht
    clear hd ht hx
    have f4:(i:Int)<(n:Int):=by omega
    by_cases hx:x=46
    ·as_aux_lemma =>
      have t1:(((s[i]'hb).toNat:Int)==46)=true:=by rw [hsx,hx];rfl
      clear hsx
      subst hx
      have HT:Hid (segs [] s.data.toList=(done++[(s.data.toList.drop f).take (i-f)])++segs [] (s.data.toList.drop (i+1))):=Ac (by rw [HSEG.out,HDX.out,Zx,List.append_assoc];rfl)
      go_wp2_with fail
      refine HC.out.mono ?_
      rintro e w1 ⟨rfl,hg1⟩
      cases X with
      | false =>
       have HF:Hid (D=false):=Ac (by rw [←HD.out,HT.out,List.all_append,List.all_append];simp [HX.out])
       go_wp2_with fail
       go_ret
       exact ⟨by rw [HF.out];rfl,Ae HG.out hg1⟩
      | true =>
       go_wp2_with fail
       exact ⟨⟨i+1,p+1,i+1,Bl (by omega),Bl (by omega),Bl (by omega),Ac ⟨by omega,by omega,by omega,.inl ⟨by omega,by omega,done++[(s.data.toList.drop f).take (i-f)],by rw [HT.out,Nat.sub_self,List.take_zero],by rw [List.length_append,HDL.out];rfl,by rw [List.all_append,HDA.out];simp [HX.out]⟩⟩,Ae HG.out hg1⟩,by simp [intOf];omega⟩
    ·as_aux_lemma =>
      have t1:(((s[i]'hb).toNat:Int)==46)=false:=by
       rw [hsx,beq_eq_false_iff_ne]
       intro h
       exact hx (UInt8.toNat.inj (show x.toNat=(46:UInt8).toNat from by have:(46:UInt8).toNat=46:=rfl;omega))
      have HT:Hid (segs [] s.data.toList=done++segs ((s.data.toList.drop f).take (i+1-f)) (s.data.toList.drop (i+1))):=Ac (by rw [HSEG.out,HDX.out,V4 _ _ hx,HTX.out])
      clear hx hsx
      go_wp2_with fail
      exact ⟨⟨i+1,p,f,Bl (by omega),rfl,rfl,Ac ⟨by omega,by omega,by omega,.inl ⟨by omega,by omega,done,HT.out,HDL.out,HDA.out⟩⟩,HG.out⟩,by simp [intOf];omega⟩
  ·have hA:=hat.resolve_left (fun h=>by have:=HL.out;have:=h.1;omega)
   have HF:Hid (D=decide (p≤9)):=Ac (by rw [←HD.out,hA.2.1,hA.2.2,Bool.and_true])
   have hge:¬ (i:Int)≤(n:Int):=by omega
   clear hA hat
   go_wp2_with fail
   go_ret
   exact ⟨Ao (by rw [HF.out,Bool.eq_iff_iff];simp;try omega),hg⟩
end
end Go.Proofs.YtckbiimikeiejaaGreatDoor
