/- BigG BigH BigI. -/
import Derived.Test.YtckbiimikeiejaaGreatDoorMab
set_option linter.unusedVariables false
set_option linter.unusedSimpArgs false
set_option maxHeartbeats 40000000
namespace Go.Proofs.YtckbiimikeiejaaGreatDoor
section
open Go.RowKit
theorem Rv (t:Nat) (ht:t<18446744073709551616):bits .and .u64 (t:Int) 4294967295=((t % 4294967296:Nat):Int):=by
 have:=bits_and_u64_nat t 4294967295 ht (by omega)
 rw [show (4294967295:Int)=((4294967295:Nat):Int) from rfl,this,show 4294967295=2 ^ 32-1 from rfl,Nat.and_two_pow_sub_one_eq_mod]
structure Took (us vs:List Nat) (o d i:Nat) (rs:List Nat) (k:Nat):Prop where
 len:rs.length=us.length
 lt:∀ e∈rs,e<4294967296
 out:∀ p,p<o∨o+i≤p→rs[p]?.getD 0=us[p]?.getD 0
 eq:win 4294967296 rs o i+d*val 4294967296 (vs.take i)=win 4294967296 us o i+4294967296 ^ i*k
theorem Took.step {us vs rs:List Nat} {o d i k x u:Nat} (h:Took us vs o d i rs k) (hlt:o+i<us.length) (hx:vs[i]?.getD 0=x) (hu:us[o+i]?.getD 0=u) (e k':Nat)
  (he:e+(k+d*x)=u+4294967296*k') (hb:e<4294967296):Took us vs o d (i+1) (rs.set (o+i) e) k':=by
 obtain ⟨h1,h2,h3,h4⟩:=h
 refine ⟨by simpa using h1,Ey h2 _ _ hb,fun p hp=>?_,?_⟩
 ·rw [List.getElem?_set_ne (by omega)];exact h3 p (by omega)
 ·rw [Vz _ _ _ _ _ (by omega),B7,G0,List.getD_eq_getElem?_getD,hx,hu,Nat.pow_succ]
  generalize 4294967296 ^ i=p at *
  have:p*e+p*(k+d*x)=p*u+p*4294967296*k':=by rw [←Nat.mul_add,he];grind
  grind
structure Gave (us vs:List Nat) (o i:Nat) (rs:List Nat) (k:Nat):Prop where
 len:rs.length=us.length
 lt:∀ e∈rs,e<4294967296
 out:∀ p,p<o∨o+i≤p→rs[p]?.getD 0=us[p]?.getD 0
 eq:win 4294967296 rs o i+4294967296 ^ i*k=win 4294967296 us o i+val 4294967296 (vs.take i)
theorem Gave.step {us vs rs:List Nat} {o i k x u:Nat} (h:Gave us vs o i rs k) (hlt:o+i<us.length) (hx:vs[i]?.getD 0=x) (hu:us[o+i]?.getD 0=u) :
  Gave us vs o (i+1) (rs.set (o+i) ((u+k+x) % 4294967296)) ((u+k+x)/4294967296):=by
 obtain ⟨h1,h2,h3,h4⟩:=h
 refine ⟨by simpa using h1,Ey h2 _ _ (Nat.mod_lt _ (by omega)),fun p hp=>?_,?_⟩
 ·rw [List.getElem?_set_ne (by omega)];exact h3 p (by omega)
 ·rw [Vz _ _ _ _ _ (by omega),B7,G0,List.getD_eq_getElem?_getD,hx,hu,Nat.pow_succ]
  have e:=Nat.mod_add_div (u+k+x) 4294967296
  generalize (u+k+x) % 4294967296=r at *
  generalize (u+k+x)/4294967296=q at *
  generalize 4294967296 ^ i=p at *
  have:p*r+p*4294967296*q=p*(u+k+x):=by rw [←e];grind
  grind
def Vg (us vs:List Nat) (o n d:Nat) (w:World) (g:Nat) (e:Ending) (w':World):Prop :=
 ∃ rs:List Nat,e=.returned (.int .u32 ((win 4294967296 us o (n+1)/val 4294967296 vs:Nat):Int))∧OwnNums w' g rs∧rs.length=us.length∧(∀ e∈rs,e<4294967296)∧(∀ p,p<o∨o+(n+1)≤p→rs[p]?.getD 0=us[p]?.getD 0)∧
  win 4294967296 rs o (n+1)=win 4294967296 us o (n+1) % val 4294967296 vs∧w.grownBy w' (some g)
theorem Xu {us vs rs:List Nat} {o d g:Nat} {w w':World} (h:Took us vs o d (vs.length+1) rs 0) (hlo:win 4294967296 us o (vs.length+1)<(d+1)*val 4294967296 vs) (ho:OwnNums w' g rs) (hg:w.grownBy w' (some g)) :
  Vg us vs o vs.length d w g (.returned (.int .u32 (d:Int))) w':=by
 obtain ⟨h1,h2,h3,h4⟩:=h
 rw [List.take_of_length_le (by omega),Nat.mul_zero,Nat.add_zero] at h4
 have hV:0<val 4294967296 vs:=by
  rcases Nat.eq_zero_or_pos (val 4294967296 vs) with h | h
  ·rw [h] at hlo;simp at hlo
  ·exact h
 rw [Nat.add_mul,Nat.one_mul] at hlo
 have e1:win 4294967296 us o (vs.length+1)/val 4294967296 vs=d:=by
  rw [Nat.div_eq_iff hV];omega
 have e2:win 4294967296 us o (vs.length+1) % val 4294967296 vs=win 4294967296 rs o (vs.length+1):=by
  have:=Nat.mod_add_div (win 4294967296 us o (vs.length+1)) (val 4294967296 vs)
  rw [e1,Nat.mul_comm] at this
  omega
 exact ⟨rs,by rw [e1],ho,h1,h2,h3,e2.symm,hg⟩
theorem Xt {us vs rs rs':List Nat} {o d cy:Nat} (h:Took us vs o d (vs.length+1) rs 1) (k:Gave rs vs o (vs.length+1) rs' cy)
  (hhi:(d-1)*val 4294967296 vs≤win 4294967296 us o (vs.length+1)) (hlo:win 4294967296 us o (vs.length+1)<(d+1)*val 4294967296 vs) (hcy:cy≤1) :
  1≤d∧win 4294967296 us o (vs.length+1)/val 4294967296 vs=d-1∧win 4294967296 rs' o (vs.length+1)=win 4294967296 us o (vs.length+1) % val 4294967296 vs:=by
 have h4:=h.eq
 have k4:=k.eq
 have l1:=Vd 4294967296 h.lt (by omega) o (vs.length+1)
 have l2:=Vd 4294967296 k.lt (by omega) o (vs.length+1)
 rw [List.take_of_length_le (by omega)] at h4 k4
 rw [Nat.mul_one] at h4
 generalize win 4294967296 us o (vs.length+1)=W at *
 generalize win 4294967296 rs o (vs.length+1)=W1 at *
 generalize win 4294967296 rs' o (vs.length+1)=W2 at *
 generalize val 4294967296 vs=V at *
 generalize 4294967296 ^ (vs.length+1)=p at *
 have hV:0<V:=by
  rcases Nat.eq_zero_or_pos V with h | h
  ·rw [h] at hlo;simp at hlo
  ·exact h
 have hd:1≤d:=by
  rcases Nat.eq_zero_or_pos d with h | h
  ·subst h;rw [Nat.zero_mul] at h4;omega
  ·exact h
 obtain ⟨e,rfl⟩:∃ e,d=e+1:=⟨d-1,by omega⟩
 rw [Nat.add_sub_cancel] at hhi ⊢
 rw [Nat.add_mul,Nat.one_mul] at h4
 obtain rfl | rfl:cy=0∨cy=1:=by omega
 ·omega
 ·have e1:W/V=e:=by
   rw [Nat.div_eq_iff hV];omega
  refine ⟨hd,e1,?_⟩
  have:=Nat.mod_add_div W V
  rw [e1,Nat.mul_comm] at this
  omega
set_option maxRecDepth 100000 in
theorem Km (w:World) (g o n c d:Nat) (v2:Value) (us vs:List Nat) (hu:OwnNums w g us) (hub:∀ e∈us,e<4294967296) (hlen:o+(n+1)≤us.length) (hul:us.length≤1099511627777) (hc1:n+1≤c) (hc2:c≤9223372036854775807)
  (hv:Nums w v2 vs) (hvn:vs.length=n) (hne:v2.ownBlock≠some g) (hd:d<4294967296)
  (hlo:Hid (win 4294967296 us o (n+1)<(d+1)*val 4294967296 vs)) (hhi:Hid ((d-1)*val 4294967296 vs≤win 4294967296 us o (n+1))) :
  Calls Tryz.prog 269 #[.slice (some ⟨g,o,none⟩) (n+1) c,v2,.int .u64 d] w fun e w'=>Vg us vs o n d w g e w':=by
 have bv:=hv.lt
 obtain ⟨A,c',rfl,k1,k2,hA⟩:=hv.read
 have hne':∀ b o',A=some ⟨b,o',none⟩→b≠g:=fun b o' e h=>hne (by rw [e,h];rfl)
 subst hvn
 clear hne hv
 go_enter Tryz.func269,Tryz.ntmps269
 go_wp2
 go_loopw [7,8,15] (fun cv bv iv wr=>∃ (i cy bo:Nat) (rs:List Nat),i≤vs.length+1∧iv=.int .i64 i∧cv=.int .u64 cy∧bv=.int .u64 bo∧cy<4294967296∧bo≤1∧w.grownBy wr (some g)∧OwnNums wr g rs∧Hid (Took us vs o d i rs (cy+bo)∧(i=vs.length+1→cy=0)))
  (fun _ _ iv _=>vs.length+1-(intOf iv).toNat)
 case atStart=>exact ⟨0,0,0,us,by omega,rfl,rfl,rfl,by omega,by omega,Al _ _,hu,⟨rfl,hub,fun _ _=>rfl,by simp [Lk,val]⟩,fun h=>by omega⟩
 case round =>
  obtain ⟨i,cy,bo,rs,hi,rfl,rfl,rfl,hcy,hbo,hg,ho,ht⟩:=hrel
  by_cases hlt:i<vs.length+1
  ·have q1:=ho.cell (o+i) (by rw [ht.out.1.len];omega)
   have q2:=ho.free (o+i)
   have b1:rs[o+i]?.getD 0<4294967296:=by
    have:=Eq (B:=4294967296) (by omega) ht.out.1.lt (o+i)
    rwa [List.getD_eq_getElem?_getD] at this
   have HU:Hid (us[o+i]?.getD 0=rs[o+i]?.getD 0):=Ac (ht.out.1.out (o+i) (by omega)).symm
   generalize rs[o+i]?.getD 0=u at *
   by_cases hv2:i<vs.length
   ·obtain ⟨b,o',rfl,hc⟩:=hA (by omega)
    have q3:=Aj hg (hc i hv2) (by simpa using hne' b o' rfl)
    have b2:=bv i
    clear hc hA hne' bv
    generalize hxk:vs[i]?.getD 0=x at q3 b2
    have HX:=Ac hxk
    clear hxk
    have b4:(0:Int)≤(d:Int)*(x:Int):=by have:=Int.natCast_nonneg (d*x);rwa [Int.natCast_mul] at this
    have hdx:d*x≤18446744065119617025:=by
     have:d*x≤4294967295*4294967295:=Nat.mul_le_mul (by omega) (by omega)
     omega
    have b5:(d:Int)*(x:Int)≤18446744065119617025:=by rw [←Int.natCast_mul];omega
    have e1:=Rv (cy+d*x) (by omega)
    rw [Int.natCast_add,Int.natCast_mul] at e1
    have b6:(cy+d*x) % 4294967296<4294967296:=Nat.mod_lt _ (by omega)
    have HM:Hid ((cy+d*x) % 4294967296+4294967296*((cy+d*x)/4294967296)=cy+d*x):=Ac (Nat.mod_add_div _ _)
    have HQ:Hid (((cy:Int)+(d:Int)*(x:Int))/4294967296=(((cy+d*x)/4294967296:Nat):Int)):=Ac (by rw [←Int.natCast_mul];omega)
    have b7:(cy+d*x)/4294967296<4294967296:=by omega
    generalize (cy+d*x) % 4294967296=r at *
    generalize (cy+d*x)/4294967296=q at *
    clear hdx
    have hm:=HM.out
    go_wp2
    ·exact ⟨⟨i+1,q,1,_,by omega,by go_num,Bl HQ.out,rfl,b7,by omega,Ae hg (Au _ _ _ _),ho.set' (o+i) (u+4294967296-(r+bo)) _ (by rw [Ee];omega),Ac ⟨ht.out.1.step (by omega) HX.out HU.out _ _ (by omega) (by omega),fun h=>by omega⟩⟩,by simp [intOf];omega⟩
    ·exact ⟨⟨i+1,q,0,_,by omega,by go_num,Bl HQ.out,rfl,b7,by omega,Ae hg (Au _ _ _ _),ho.set' (o+i) (u-(r+bo)) _ (by omega),Ac ⟨ht.out.1.step (by omega) HX.out HU.out _ _ (by omega) (by omega),fun h=>by omega⟩⟩,by simp [intOf];omega⟩
   ·have HX:Hid (vs[i]?.getD 0=0):=by
     have:vs[i]? = none:=List.getElem?_eq_none (by omega)
     exact Ac (by rw [this];rfl)
    have e1:=Rv cy (by omega)
    rw [Nat.mod_eq_of_lt hcy] at e1
    clear hA hne' bv
    go_wp2
    ·exact ⟨⟨i+1,0,1,_,by omega,by go_num,Bl (by omega),rfl,by omega,by omega,Ae hg (Au _ _ _ _),ho.set' (o+i) (u+4294967296-(cy+bo)) _ (by rw [Ee];omega),Ac ⟨ht.out.1.step (by omega) HX.out HU.out _ _ (by omega) (by omega),fun h=>rfl⟩⟩,by simp [intOf];omega⟩
    ·exact ⟨⟨i+1,0,0,_,by omega,by go_num,Bl (by omega),rfl,by omega,by omega,Ae hg (Au _ _ _ _),ho.set' (o+i) (u-(cy+bo)) _ (by omega),Ac ⟨ht.out.1.step (by omega) HX.out HU.out _ _ (by omega) (by omega),fun h=>rfl⟩⟩,by simp [intOf];omega⟩
  ·obtain rfl:i=vs.length+1:=by omega
   obtain ⟨ht1,ht2⟩:=ht.out
   obtain rfl:=ht2 rfl
   rw [Nat.zero_add] at ht1
   have HT:=Ac ht1
   clear ht ht1 ht2
   obtain rfl | rfl:bo=0∨bo=1:=by omega
   ·go_wp2
    go_ret
    exact Xu HT.out hlo.out ho hg
   ·go_wp2
    obtain ⟨wo,rfl⟩:∃ wo:World,wo=wr:=⟨_,rfl⟩
    go_loopw [7,62] (fun cv iv wr=>∃ (i cy:Nat) (rs':List Nat),i≤vs.length+1∧iv=.int .i64 i∧cv=.int .u64 cy∧cy≤1∧w.grownBy wr (some g)∧OwnNums wr g rs'∧Hid (Gave rs vs o i rs' cy))
     (fun _ iv _=>vs.length+1-(intOf iv).toNat)
    case atStart=>exact ⟨0,0,rs,by omega,rfl,rfl,by omega,hg,ho,⟨rfl,HT.out.lt,fun _ _=>rfl,by simp [Lk,val]⟩⟩
    case round =>
     clear ho hg
     obtain ⟨i,cy,rs',hi,rfl,rfl,hcy,hg,ho,ht⟩:=hrel
     by_cases hlt:i<vs.length+1
     ·have q1:=ho.cell (o+i) (by rw [ht.out.len,HT.out.len];omega)
      have q2:=ho.free (o+i)
      have b1:rs'[o+i]?.getD 0<4294967296:=by
       have:=Eq (B:=4294967296) (by omega) ht.out.lt (o+i)
       rwa [List.getD_eq_getElem?_getD] at this
      have HU:Hid (rs[o+i]?.getD 0=rs'[o+i]?.getD 0):=Ac (ht.out.out (o+i) (by omega)).symm
      generalize rs'[o+i]?.getD 0=u at *
      by_cases hv2:i<vs.length
      ·obtain ⟨b,o',rfl,hc⟩:=hA (by omega)
       have q3:=Aj hg (hc i hv2) (by simpa using hne' b o' rfl)
       have b2:=bv i
       clear hc hA hne' bv
       generalize hxk:vs[i]?.getD 0=x at q3 b2
       have HX:=Ac hxk
       clear hxk
       go_wp2
       exact ⟨⟨i+1,_,_,by omega,by go_num,Bl (a:=((u:Int)+cy+x)/4294967296) (by omega:_=(((u+cy+x)/4294967296:Nat):Int)),by omega,Ae hg (Au _ _ _ _),ho.set' (o+i) ((u+cy+x) % 4294967296) _ (by omega),Ac (ht.out.step (by rw [HT.out.len];omega) HX.out HU.out)⟩,by simp [intOf];omega⟩
      ·have HX:Hid (vs[i]?.getD 0=0):=by
        have:vs[i]? = none:=List.getElem?_eq_none (by omega)
        exact Ac (by rw [this];rfl)
       clear hA hne' bv
       go_wp2
       exact ⟨⟨i+1,_,_,by omega,by go_num,Bl (a:=((u:Int)+cy)/4294967296) (by omega:_=(((u+cy+0)/4294967296:Nat):Int)),by omega,Ae hg (Au _ _ _ _),ho.set' (o+i) ((u+cy+0) % 4294967296) _ (by omega),Ac (ht.out.step (by rw [HT.out.len];omega) HX.out HU.out)⟩,by simp [intOf];omega⟩
     ·obtain rfl:i=vs.length+1:=by omega
      have hf:=Xt HT.out ht.out hhi.out hlo.out hcy
      have hd1:1≤d:=hf.1
      go_wp2
      go_ret
      refine ⟨rs',?_,ho,by rw [ht.out.len,HT.out.len],ht.out.lt,fun p hp=>by rw [ht.out.out p hp,HT.out.out p hp],hf.2.2,hg⟩
      rw [hf.2.1]
      exact B9 (by omega)
end
section
open Go.RowKit
/-! ### the guess of a digit (n = m + 2 words) -/
section
variable {m vl v2 v1 wl u2 top V W d rest p:Nat}
theorem Yv (hV:V=vl+p*(v2+4294967296*v1)) (hW:W=wl+p*(u2+4294967296*top)) (hwl:wl<p) (hu2:u2<4294967296) (hv1:0<v1):W<(top/v1+1)*V:=by
 have h1:top+1≤(top/v1+1)*v1:=by
  have:=Nat.lt_div_mul_add (a:=top) hv1
  rw [Nat.add_mul];omega
 have h2:W<p*(4294967296*(top+1)):=by
  have:p*(u2+4294967296*top+1)≤p*(4294967296*(top+1)):=Nat.mul_le_mul_left _ (by omega)
  rw [Nat.mul_add] at this
  omega
 have h3:p*(4294967296*(top+1))≤p*(4294967296*((top/v1+1)*v1)):=Nat.mul_le_mul_left _ (Nat.mul_le_mul_left _ h1)
 have h4:p*(4294967296*((top/v1+1)*v1))≤(top/v1+1)*V:=by
  rw [hV]
  generalize top/v1+1=e
  have:e*(vl+p*(v2+4294967296*v1))=p*(4294967296*(e*v1))+(e*vl+e*(p*v2)):=by grind
  omega
 omega
theorem Yw (hV:V=vl+p*(v2+4294967296*v1)) (hW:W=wl+p*(u2+4294967296*top)) (hwl:wl<p) (ht:d*v1+rest=top) (hc:rest*4294967296+u2<d*v2):W<d*V:=by
 have h1:p*(rest*4294967296+u2+1)≤p*(d*v2):=Nat.mul_le_mul_left _ hc
 have h2:d*V=d*vl+(p*(d*v2)+p*(4294967296*(d*v1))):=by rw [hV];grind
 have h3:W=wl+p*u2+(p*(4294967296*(d*v1))+p*(4294967296*rest)):=by rw [hW,←ht];grind
 have h4:p*(rest*4294967296+u2+1)=p*(4294967296*rest)+p*u2+p:=by grind
 omega
theorem Vm (hV:V=vl+p*(v2+4294967296*v1)) (hW:W=wl+p*(u2+4294967296*top)) (hvl:vl<p) (hv2:v2<4294967296) (hWV:W<4294967296*V):top<4294967296*v1+4294967296:=by
 have h1:V<p*(4294967296*(v1+1)):=by
  have:p*(v2+4294967296*v1+1)≤p*(4294967296*(v1+1)):=Nat.mul_le_mul_left _ (by omega)
  rw [Nat.mul_add] at this
  omega
 have hp:0<p:=by omega
 have h2:p*(4294967296*top)<p*(4294967296*(4294967296*(v1+1))):=by
  have e1:p*(u2+4294967296*top)=p*u2+p*(4294967296*top):=Nat.mul_add _ _ _
  have e2:4294967296*V<4294967296*(p*(4294967296*(v1+1))):=by omega
  have e3:4294967296*(p*(4294967296*(v1+1)))=p*(4294967296*(4294967296*(v1+1))):=by grind
  omega
 have h3:=Nat.lt_of_mul_lt_mul_left h2
 omega
theorem S9 (hV:V=vl+p*(v2+4294967296*v1)) (hW:W=wl+p*(u2+4294967296*top)) (hvl:vl<p) (hv2:v2<4294967296) (ht:d*v1+rest=top) (hr:4294967296≤rest) (hd:d<4294967296):(d-1)*V≤W:=by
 have h0:(d-1)*V≤d*V:=Nat.mul_le_mul_right _ (by omega)
 have h1:vl+p*v2≤p*4294967296:=by
  have:p*(v2+1)≤p*4294967296:=Nat.mul_le_mul_left _ hv2
  rw [Nat.mul_add] at this
  omega
 have h2:d*(vl+p*v2)≤4294967296*(p*4294967296):=Nat.mul_le_mul (by omega) h1
 have h3:d*V=d*(vl+p*v2)+p*(4294967296*(d*v1)):=by rw [hV];grind
 have h4:W=wl+p*u2+p*(4294967296*(d*v1))+p*(4294967296*rest):=by rw [hW,←ht];grind
 have h5:p*(4294967296*4294967296)≤p*(4294967296*rest):=Nat.mul_le_mul_left _ (Nat.mul_le_mul_left _ hr)
 have h6:4294967296*(p*4294967296)=p*(4294967296*4294967296):=by grind
 omega
theorem Yu (hV:V=vl+p*(v2+4294967296*v1)) (hW:W=wl+p*(u2+4294967296*top)) (hvl:vl<p) (hv1:0<v1) (ht:d*v1+rest=top) (hc:d*v2≤rest*4294967296+u2) (hd:d<4294967296):(d-1)*V≤W:=by
 rcases Nat.eq_zero_or_pos d with h | hpos
 ·subst h;simp
 have h1:d*vl≤4294967296*p:=Nat.mul_le_mul (by omega) (by omega)
 have h2:p*(d*v2)≤p*(rest*4294967296+u2):=Nat.mul_le_mul_left _ hc
 have h3:d*V=d*vl+p*(d*v2)+p*(4294967296*(d*v1)):=by rw [hV];grind
 have h4:W=wl+p*(rest*4294967296+u2)+p*(4294967296*(d*v1)):=by rw [hW,←ht];grind
 have h5:4294967296*p≤V:=by
  have:p*(4294967296*1)≤p*(4294967296*v1):=Nat.mul_le_mul_left _ (Nat.mul_le_mul_left _ hv1)
  rw [hV,Nat.mul_add];omega
 have h6:(d-1)*V+V=d*V:=by
  obtain ⟨e,rfl⟩:∃ e,d=e+1:=⟨d-1,by omega⟩
  rw [Nat.add_sub_cancel,Nat.add_mul,Nat.one_mul]
 omega
end
theorem A15 {vs:List Nat} {m:Nat} (h:vs.length=m+2):val 4294967296 vs=val 4294967296 (vs.take m)+4294967296 ^ m*(vs[m]?.getD 0+4294967296*vs[m+1]?.getD 0):=by
 have e1:=B7 4294967296 vs m
 have e2:=B7 4294967296 vs (m+1)
 rw [show m+1+1=vs.length by omega,List.take_length,e1,List.getD_eq_getElem?_getD,List.getD_eq_getElem?_getD,Nat.pow_succ] at e2
 rw [e2];grind
theorem A16 (us:List Nat) (j m:Nat):win 4294967296 us j (m+2+1)=win 4294967296 us j m+4294967296 ^ m*(us[j+m]?.getD 0+4294967296*(us[j+(m+2)]?.getD 0*4294967296+us[j+(m+1)]?.getD 0)):=by
 rw [G0,G0,G0,Nat.pow_succ,Nat.pow_succ];grind
theorem Gj (B:Nat) (us:List Nat) (j:Nat) (h:j≤us.length):val B us=val B (us.take j)+B ^ j*val B (us.drop j):=by
 have:=He B (us.take j) (us.drop j)
 rw [List.take_append_drop] at this
 rw [this];simp [Nat.min_eq_left h]
theorem On (B:Nat) (us:List Nat) (j n:Nat) (h:j+n≤us.length):val B (us.drop j)=win B us j n+B ^ n*val B (us.drop (j+n)):=by
 have:=Gj B (us.drop j) n (by simp;omega)
 rw [List.drop_drop] at this
 exact this
theorem Ph (B:Nat) {us us':List Nat} (hl:us'.length=us.length):∀ k j,us.length-j=k→(∀ p,j≤p→us'[p]?.getD 0=us[p]?.getD 0)→val B (us'.drop j)=val B (us.drop j)
 | 0,j,hk,_=>by rw [List.drop_of_length_le (by omega),List.drop_of_length_le (by omega)]
 | k+1,j,hk,h=>by
  rw [Hf B us' j (by omega),Hf B us j (by omega),h j (Nat.le_refl _),Ph B hl k (j+1) (by omega) (fun p hp=>h p (by omega))]
theorem Pr (B:Nat) {us us':List Nat}:∀ j,(∀ p,p<j→us'[p]?.getD 0=us[p]?.getD 0)→val B (us'.take j)=val B (us.take j)
 | 0,_=>by simp [val]
 | j+1,h=>by
  rw [B7,B7,List.getD_eq_getElem?_getD,List.getD_eq_getElem?_getD,Pr B j (fun p hp=>h p (by omega)),h j (by omega)]
structure Longs (A V L n:Nat) (J:Nat) (us q:List Nat) (la:Nat):Prop where
 ul:us.length=la+1
 ub:∀ e∈us,e<4294967296
 ql:q.length=L
 qb:∀ e∈q,e<4294967296
 less:val 4294967296 (us.drop J)<V
 eq:val 4294967296 us+V*(4294967296 ^ J*val 4294967296 (q.drop J))=A
theorem Longs.window {A V L n j la:Nat} {us q:List Nat} (h:Longs A V L n (j+1) us q la) (hV:V<4294967296 ^ n) (hj:j+(n+1)≤la+1):win 4294967296 us j (n+1)=val 4294967296 (us.drop j)∧win 4294967296 us j (n+1)<4294967296*V:=by
 have hu:=h.ul
 have hl:=h.less
 have e1:=Hf 4294967296 us j (by omega)
 have e2:=On 4294967296 us j (n+1) (by omega)
 have b:=Eq (B:=4294967296) (by omega) h.ub j
 rw [List.getD_eq_getElem?_getD] at b
 have e3:val 4294967296 (us.drop j)<4294967296 ^ (n+1):=by
  rw [Nat.pow_succ,e1];omega
 have e4:val 4294967296 (us.drop (j+(n+1)))=0:=by
  rcases Nat.eq_zero_or_pos (val 4294967296 (us.drop (j+(n+1)))) with h | h
  ·exact h
  ·have:4294967296 ^ (n+1)*1≤4294967296 ^ (n+1)*val 4294967296 (us.drop (j+(n+1))):=Nat.mul_le_mul_left _ h
   omega
 rw [e4,Nat.mul_zero,Nat.add_zero] at e2
 exact ⟨e2.symm,by omega⟩
theorem Longs.step {A V L n j la:Nat} {us us' q:List Nat} (h:Longs A V L n (j+1) us q la) (hV:V<4294967296 ^ n) (hV0:0<V) (hj:j+(n+1)≤la+1) (hL:j<L)
  (hl:us'.length=us.length) (hb:∀ e∈us',e<4294967296) (ho:∀ p,p<j∨j+(n+1)≤p→us'[p]?.getD 0=us[p]?.getD 0)
  (hw:win 4294967296 us' j (n+1)=win 4294967296 us j (n+1) % V):Longs A V L n j us' (q.set j (win 4294967296 us j (n+1)/V)) la:=by
 obtain ⟨w1,w2⟩:=h.window hV hj
 have hu:=h.ul
 have e0:=Gj 4294967296 us j (by omega)
 have e1:=Gj 4294967296 us' j (by omega)
 have e2:=On 4294967296 us' j (n+1) (by omega)
 have e2':=On 4294967296 us j (n+1) (by omega)
 rw [Ph 4294967296 hl _ (j+(n+1)) rfl (fun p hp=>ho p (.inr hp))] at e2
 have hz:4294967296 ^ (n+1)*val 4294967296 (us.drop (j+(n+1)))=0:=by omega
 rw [hz,Nat.add_zero,hw] at e2
 rw [Pr 4294967296 j (fun p hp=>ho p (.inl hp)),e2] at e1
 rw [←w1] at e0
 refine ⟨by omega,hb,by simpa using h.ql,Ey h.qb _ _ ?_,?_,?_⟩
 ·rw [Nat.div_lt_iff_lt_mul hV0];exact w2
 ·rw [e2];exact Nat.mod_lt _ hV0
 ·rw [Li _ _ _ _ (by rw [h.ql];exact hL),e1,←h.eq,e0,Nat.pow_succ]
  have:=Nat.mod_add_div (win 4294967296 us j (n+1)) V
  generalize win 4294967296 us j (n+1)=W at *
  generalize W % V=r at *
  generalize W/V=k at *
  rw [←this]
  generalize 4294967296 ^ j=p at *
  grind
theorem Wp {us:List Nat} {k i:Nat} (hk:k<32) (h:∀ e∈us,e<4294967296) (x y:Nat) (hx:us[i]?.getD 0=x) (hy:us[i+1]?.getD 0=y) :
  x/2 ^ k+y*2 ^ (32-k) % 4294967296<4294967296∧2 ^ k*(x/2 ^ k+y*2 ^ (32-k) % 4294967296)+x % 2 ^ k=x+4294967296*(y % 2 ^ k):=by
 have m3:4294967296=2 ^ k*2 ^ (32-k):=by rw [←Nat.pow_add,show k+(32-k)=32 by omega]
 have bx:=Eq (B:=4294967296) (by omega) h i
 rw [List.getD_eq_getElem?_getD,hx] at bx
 have e:y*2 ^ (32-k) % 4294967296=(y % 2 ^ k)*2 ^ (32-k):=by
  conv=>lhs;rw [m3]
  rw [Nat.mul_mod_mul_right]
 have d1:=Nat.mod_add_div x (2 ^ k)
 have d2:=Nat.mod_lt y (Nat.two_pow_pos k)
 have d3:x/2 ^ k<2 ^ (32-k):=by
  rw [Nat.div_lt_iff_lt_mul (Nat.two_pow_pos k),Nat.mul_comm,←m3];exact bx
 rw [e]
 constructor
 ·have:(y % 2 ^ k+1)*2 ^ (32-k)≤2 ^ k*2 ^ (32-k):=Nat.mul_le_mul_right _ d2
  rw [←m3,Nat.add_mul] at this
  omega
 ·have:2 ^ k*(y % 2 ^ k*2 ^ (32-k))=4294967296*(y % 2 ^ k):=by rw [m3];grind
  rw [Nat.mul_add,this]
  omega
end
section
open Go.RowKit
theorem X7 {x k:Nat} (hx:0<x) (h:x*2 ^ k<2147483648):k+1<32∧x*2 ^ (k+1)<4294967296:=by
 have e:x*2 ^ (k+1)=2*(x*2 ^ k):=by rw [Nat.pow_succ];grind
 refine ⟨?_,by omega⟩
 rcases Nat.lt_or_ge (k+1) 32 with h3 | h3
 ·exact h3
 ·have h4:2 ^ 31≤2 ^ k:=Nat.pow_le_pow_right (by omega) (by omega)
  have:1*2 ^ 31≤x*2 ^ k:=Nat.mul_le_mul hx h4
  omega
structure Xx (xs ys us vl:List Nat) (k L m:Nat):Prop where
 vlen:vl.length=m+2
 vval:val 4294967296 vl=val 4294967296 ys*2 ^ k
 vpos:0<val 4294967296 vl
 vlt:val 4294967296 vl<4294967296 ^ (m+2)
 v1:0<vl[m+1]?.getD 0
 longs:Longs (val 4294967296 xs*2 ^ k) (val 4294967296 vl) L (m+2) L us (List.replicate L 0) xs.length
theorem Um {xs ys us vs:List Nat} {k L m x:Nat} (hm:ys.length=m+2) (hx:ys[m+1]?.getD 0=x) (h1:2147483648≤x*2 ^ k) (h2:x*2 ^ k<4294967296) (hk:k<32)
  (hxs:∀ e∈xs,e<4294967296) (hys:∀ e∈ys,e<4294967296) (hL:xs.length=L+m+1) (hub:∀ e∈us,e<4294967296) (huv:val 4294967296 us=val 4294967296 xs*2 ^ k) (hul:us.length=xs.length+1)
  (hvb:∀ e∈vs,e<4294967296) (hvv:val 4294967296 vs=val 4294967296 ys*2 ^ k) (hvl:vs.length=ys.length+1):Xx xs ys us (vs.take (m+2)) k L m:=by
 have hlen:(vs.take (m+2)).length=m+2:=by simp;omega
 have e1:=B7 4294967296 ys (m+1)
 rw [show m+1+1=ys.length by omega,List.take_length,List.getD_eq_getElem?_getD,hx] at e1
 have l1:=Ef 4294967296 (ys.take (m+1)) (fun e he=>hys e (List.mem_of_mem_take he))
 rw [show (ys.take (m+1)).length=m+1 by simp;omega] at l1
 have hp:0<4294967296 ^ (m+1):=Nat.pow_pos (by omega)
 have hp2:4294967296 ^ (m+2)=4294967296 ^ (m+1)*4294967296:=Nat.pow_succ ..
 have hV:val 4294967296 ys*2 ^ k<4294967296 ^ (m+2):=by
  have a1:val 4294967296 ys+1≤4294967296 ^ (m+1)*(x+1):=by rw [e1,Nat.mul_add];omega
  have a2:(x+1)*2 ^ k≤4294967296:=by
   have m3:4294967296=2 ^ (32-k)*2 ^ k:=by rw [←Nat.pow_add,show 32-k+k=32 by omega]
   have:x<2 ^ (32-k):=by
    rw [m3] at h2
    exact Nat.lt_of_mul_lt_mul_right h2
   rw [m3]
   exact Nat.mul_le_mul_right _ this
  have a3:(val 4294967296 ys+1)*2 ^ k≤4294967296 ^ (m+1)*(x+1)*2 ^ k:=Nat.mul_le_mul_right _ a1
  have a4:4294967296 ^ (m+1)*((x+1)*2 ^ k)≤4294967296 ^ (m+1)*4294967296:=Nat.mul_le_mul_left _ a2
  have a5:0<2 ^ k:=Nat.two_pow_pos k
  rw [Nat.add_mul,Nat.one_mul] at a3
  rw [Nat.mul_assoc] at a3
  omega
 have hV2:2147483648*4294967296 ^ (m+1)≤val 4294967296 ys*2 ^ k:=by
  have a1:4294967296 ^ (m+1)*x≤val 4294967296 ys:=by omega
  have a2:4294967296 ^ (m+1)*x*2 ^ k≤val 4294967296 ys*2 ^ k:=Nat.mul_le_mul_right _ a1
  have a3:4294967296 ^ (m+1)*2147483648≤4294967296 ^ (m+1)*(x*2 ^ k):=Nat.mul_le_mul_left _ h1
  rw [Nat.mul_assoc] at a2
  omega
 have hval:val 4294967296 (vs.take (m+2))=val 4294967296 ys*2 ^ k:=by
  have:=Gj 4294967296 vs (m+2) (by omega)
  rw [hvv] at this
  rcases Nat.eq_zero_or_pos (val 4294967296 (vs.drop (m+2))) with h | h
  ·rw [h] at this;omega
  ·have:4294967296 ^ (m+2)*1≤4294967296 ^ (m+2)*val 4294967296 (vs.drop (m+2)):=Nat.mul_le_mul_left _ h
   omega
 have hp3:0<2147483648*4294967296 ^ (m+1):=Nat.mul_pos (by omega) hp
 refine ⟨hlen,hval,by omega,by omega,?_,⟨hul,hub,by simp,by simp,?_,by rw [List.drop_replicate,I5,huv];simp⟩⟩
 ·rcases Nat.eq_zero_or_pos ((vs.take (m+2))[m+1]?.getD 0) with h | h
  ·have e:=B7 4294967296 (vs.take (m+2)) (m+1)
   rw [List.getD_eq_getElem?_getD,h,Nat.mul_zero,Nat.add_zero,List.take_of_length_le (i:=m+1+1) (by omega)] at e
   have l:=Ef 4294967296 ((vs.take (m+2)).take (m+1)) (fun e he=>hvb e (List.mem_of_mem_take (List.mem_of_mem_take he)))
   rw [show ((vs.take (m+2)).take (m+1)).length=m+1 by simp;omega] at l
   omega
  ·exact h
 ·have l2:=Ef 4294967296 xs hxs
  have e2:=Gj 4294967296 us L (by omega)
  have a1:val 4294967296 xs*2 ^ k<4294967296 ^ xs.length*2 ^ k:=(Nat.mul_lt_mul_right (Nat.two_pow_pos k)).2 l2
  have a2:4294967296 ^ xs.length=4294967296 ^ L*4294967296 ^ (m+1):=by rw [hL,Nat.add_assoc,Nat.pow_add]
  have a3:2 ^ k≤2147483648:=by
   have:=Nat.pow_le_pow_right (n:=2) (by omega) (show k≤31 by omega)
   simpa using this
  have a4:4294967296 ^ L*val 4294967296 (us.drop L)<4294967296 ^ L*(4294967296 ^ (m+1)*2 ^ k):=by
   rw [a2,Nat.mul_assoc] at a1;omega
  have a5:=Nat.lt_of_mul_lt_mul_left a4
  have a6:4294967296 ^ (m+1)*2 ^ k≤4294967296 ^ (m+1)*2147483648:=Nat.mul_le_mul_left _ a3
  omega
theorem Nu {d r x1:Nat} (h:1≤d):(d-1)*x1+(r+x1)=d*x1+r:=by
 obtain ⟨e,rfl⟩:∃ e,d=e+1:=⟨d-1,by omega⟩
 rw [Nat.add_sub_cancel,Nat.add_mul];omega
theorem Nk {d r x1 top:Nat} (hd:1≤d) (h:d*x1+r=top) (ht:top<4294967296*x1+4294967296) (hb:4294967296≤r+x1):(d-1)*x1+(r+x1)=top∧d-1<4294967296:=by
 have e:=Nu (r:=r) (x1:=x1) hd
 refine ⟨by omega,?_⟩
 rcases Nat.lt_or_ge (d-1) 4294967296 with h2 | h2
 ·exact h2
 ·have:4294967296*x1≤(d-1)*x1:=Nat.mul_le_mul_right _ h2
  omega
theorem Ys {x y k:Nat} (hk:k<32) (hx:x<4294967296) (hy:y<4294967296):bits .or .u32 ((x:Int)/2 ^ k) (IntKind.u64.wrap ((y:Int)*2 ^ min (32-k) 64) % 4294967296)=((x/2 ^ k+y*2 ^ (32-k) % 4294967296:Nat):Int):=by
 have m3:4294967296=2 ^ k*2 ^ (32-k):=by rw [←Nat.pow_add,show k+(32-k)=32 by omega]
 have e2:(y:Int)*2 ^ min (32-k) 64=((y*2 ^ (32-k):Nat):Int):=by
  rw [show min (32-k) 64=32-k by omega,Int.natCast_mul,Int.natCast_pow];rfl
 have e3:(x:Int)/2 ^ k=((x/2 ^ k:Nat):Int):=by rw [Int.natCast_ediv,Int.natCast_pow];rfl
 have h2:2 ^ (32-k)≤4294967296:=Zk (by omega)
 have h3:y*2 ^ (32-k)≤4294967295*4294967296:=Nat.mul_le_mul (by omega) h2
 have e4:IntKind.u64.wrap ((y*2 ^ (32-k):Nat):Int) % 4294967296=((y*2 ^ (32-k) % 4294967296:Nat):Int):=by
  rw [Ee]
  generalize y*2 ^ (32-k)=t at *
  omega
 rw [e2,e4,e3]
 refine or32 _ _ (32-k) (by omega) ?_ ?_ (Nat.mod_lt _ (by omega))
 ·rw [Nat.div_lt_iff_lt_mul (Nat.two_pow_pos k),Nat.mul_comm,←m3];exact hx
 ·have:4294967296=2 ^ (32-k)*2 ^ k:=by rw [Nat.mul_comm,←m3]
  rw [this,Nat.mod_mul_right_mod,Nat.mul_mod_left]
theorem Yr {us rs:List Nat} {k m i c0 x y d:Nat} (h:rs.length=m+2∧(∀ e∈rs,e<4294967296)∧2 ^ k*val 4294967296 (rs.take i)+c0=val 4294967296 (us.take i)+4294967296 ^ i*(us[i]?.getD 0 % 2 ^ k)) (hi:i<m+2)
  (hx:us[i]?.getD 0=x) (hy:us[i+1]?.getD 0=y) (hd:d<4294967296∧2 ^ k*d+x % 2 ^ k=x+4294967296*(y % 2 ^ k)) :
  (rs.set i d).length=m+2∧(∀ e∈rs.set i d,e<4294967296)∧2 ^ k*val 4294967296 ((rs.set i d).take (i+1))+c0=val 4294967296 (us.take (i+1))+4294967296 ^ (i+1)*(us[i+1]?.getD 0 % 2 ^ k):=by
 obtain ⟨h1,h2,h3⟩:=h
 obtain ⟨d1,d2⟩:=hd
 refine ⟨by simpa using h1,Ey h2 _ _ d1,?_⟩
 rw [Ds _ _ _ _ (by omega),B7,List.getD_eq_getElem?_getD,hx,hy,Nat.pow_succ]
 rw [hx] at h3
 generalize 4294967296 ^ i=p at *
 generalize 2 ^ k=t at *
 have:p*(t*d)+p*(x % t)=p*x+p*(4294967296*(y % t)):=by rw [←Nat.mul_add,d2,Nat.mul_add]
 grind
theorem Wx {xs ys us vl q rs:List Nat} {us0:List Nat} {k L m:Nat} (hk:k<32) (hs:Xx xs ys us0 vl k L m) (hl:Longs (val 4294967296 xs*2 ^ k) (val 4294967296 vl) L (m+2) 0 us q xs.length)
  (hr:rs.length=m+2∧(∀ e∈rs,e<4294967296)∧2 ^ k*val 4294967296 (rs.take (m+2))+us[0]?.getD 0 % 2 ^ k=val 4294967296 (us.take (m+2))+4294967296 ^ (m+2)*(us[m+2]?.getD 0 % 2 ^ k)) (hL:xs.length=L+m+1) :
  val 4294967296 q=val 4294967296 xs/val 4294967296 ys∧val 4294967296 rs=val 4294967296 xs % val 4294967296 ys:=by
 have hp:0<2 ^ k:=Nat.two_pow_pos k
 have e0:=hl.eq
 have e1:=hl.less
 have hu:=hl.ul
 rw [List.drop_zero] at e0 e1
 rw [Nat.pow_zero,Nat.one_mul,hs.vval] at e0
 rw [hs.vval] at e1
 have hsp:=Gj 4294967296 us (m+2) (by omega)
 have hlt:=hs.vlt
 rw [hs.vval] at hlt
 have hz:val 4294967296 (us.drop (m+2))=0:=by
  rcases Nat.eq_zero_or_pos (val 4294967296 (us.drop (m+2))) with h | h
  ·exact h
  ·have:4294967296 ^ (m+2)*1≤4294967296 ^ (m+2)*val 4294967296 (us.drop (m+2)):=Nat.mul_le_mul_left _ h
   omega
 have hz2:us[m+2]?.getD 0=0:=by
  rcases Nat.lt_or_ge (m+2) us.length with h | h
  ·have:=Hf 4294967296 us (m+2) h
   omega
  ·rw [List.getElem?_eq_none h];rfl
 have e2:=hr.2.2
 rw [List.take_of_length_le (by omega),hz2,Nat.zero_mod,Nat.mul_zero,Nat.add_zero] at e2
 rw [hz,Nat.mul_zero,Nat.add_zero] at hsp
 rw [←hsp] at e2
 have hYp:0<val 4294967296 ys:=by
  rcases Nat.eq_zero_or_pos (val 4294967296 ys) with h | h
  ·rw [h] at e1;simp at e1
  ·exact h
 generalize val 4294967296 us=U at *
 generalize val 4294967296 xs=X at *
 generalize val 4294967296 ys=Y at *
 generalize val 4294967296 q=Q at *
 generalize val 4294967296 rs=R at *
 have hle:Y*Q≤X:=by
  have h9:Y*2 ^ k*Q=Y*Q*2 ^ k:=by grind
  have:Y*Q*2 ^ k≤X*2 ^ k:=by rw [←e0];omega
  exact Nat.le_of_mul_le_mul_right this hp
 have hU:U=(X-Y*Q)*2 ^ k:=by
  rw [Nat.sub_mul]
  have:Y*2 ^ k*Q=Y*Q*2 ^ k:=by grind
  omega
 have hlt2:X-Y*Q<Y:=by
  rw [hU] at e1
  exact Nat.lt_of_mul_lt_mul_right e1
 have hR:R=X-Y*Q:=by
  have hm:us[0]?.getD 0 % 2 ^ k=0:=by
   have h1:(2 ^ k*R+us[0]?.getD 0 % 2 ^ k) % 2 ^ k=0:=by rw [e2,hU,Nat.mul_mod_left]
   rw [Nat.mul_add_mod,Nat.mod_mod] at h1
   exact h1
  rw [hm,Nat.add_zero,hU,Nat.mul_comm] at e2
  exact Nat.eq_of_mul_eq_mul_right hp e2
 have hX:X=Y*Q+R:=by omega
 have hRlt:R<Y:=by omega
 constructor
 ·rw [hX,Nat.mul_add_div hYp,Nat.div_eq_of_lt hRlt,Nat.add_zero]
 ·rw [hX,Nat.mul_add_mod,Nat.mod_eq_of_lt hRlt]
set_option maxRecDepth 100000 in
theorem Ul (w:World) (v1 v2:Value) (m:Nat) (xs ys:List Nat) (ha:Nums w v1 xs) (hb:Nums w v2 ys) (hm:Hid (ys.length=m+2)) (hl:xs.length≤1099511627776) (hml:m+2≤xs.length) (hne:Hid (Iw ys)) :
  Calls Tryz.prog 244 #[v1,v2] w fun e w'=>∃ vq q vr r,e=.returned (.tuple #[vq,vr])∧Nums w' vq q∧Nums w' vr r∧val 4294967296 q=val 4294967296 xs/val 4294967296 ys∧val 4294967296 r=val 4294967296 xs % val 4294967296 ys∧q.length≤xs.length∧r.length≤xs.length∧w.grownBy w' none:=by
 obtain ⟨A,c,rfl,h1,h2,hA⟩:=hb.read
 have hbl:=hm.out
 rw [hbl] at h1 hA
 obtain ⟨b,o,rfl,hc⟩:=hA (by omega)
 have htop:=hc (m+1) (by omega)
 have bx:=hb.lt (m+1)
 have hx0:ys[m+1]?.getD 0≠0:=by
  have hn:ys≠[]:=fun h=>by rw [h] at hbl;simp at hbl
  have:=hne.out hn
  rw [List.getLast_eq_getElem] at this
  simp only [hbl] at this
  rw [List.getElem?_eq_getElem (by omega)]
  simpa using this
 have hargs:Calls Tryz.prog 244 #[v1,.slice (some ⟨b,o,none⟩) (m+2) c] w fun e w'=>∃ vq q vr r,e=.returned (.tuple #[vq,vr])∧Nums w' vq q∧Nums w' vr r∧val 4294967296 q=val 4294967296 xs/val 4294967296 ys∧val 4294967296 r=val 4294967296 xs % val 4294967296 ys∧q.length≤xs.length∧r.length≤xs.length∧w.grownBy w' none:=by
  have hb':Nums w (.slice (some ⟨b,o,none⟩) (m+2) c) ys:=by rw [←hbl];exact hb
  generalize hx:ys[m+1]?.getD 0=x at *
  have HX:=Ac hx
  clear hb hbl hc hx hA
  have hx1:0<x:=by omega
  clear hx0
  go_enter Tryz.func244,Tryz.ntmps244
  go_wp2
  go_loop [6] (fun kv=>∃ k:Nat,kv=.int .u64 k∧Hid (x*2 ^ k<4294967296)∧k<32) (fun kv=>(32-intOf kv).toNat)
  case atStart=>exact ⟨0,rfl,Ac (by omega),by omega⟩
  case round =>
   obtain ⟨k,rfl,hk,hk2⟩:=hrel
   have e0:(x:Int)*2 ^ k=((x*2 ^ k:Nat):Int):=by rw [Int.natCast_mul,Int.natCast_pow];rfl
   have ht1:=hk.out
   have HK:Hid (x*2 ^ k<2147483648→k+1<32∧x*2 ^ (k+1)<4294967296):=Ac (X7 hx1)
   have HT:Hid (x*2 ^ k=x*2 ^ k):=rfl
   have HT2:Hid (∃ t,t=x*2 ^ k):=⟨_,rfl⟩
   obtain ⟨t,htt⟩:=HT2.out
   rw [←htt] at e0 ht1 HK
   clear HT HT2 hk
   by_cases hhalf:t<2147483648
   ·have hk1:=HK.out hhalf
    have HK1:=Ac hk1.2
    have hk2':=hk1.1
    clear HK htt hk1
    go_wp2
    exact ⟨⟨k+1,by go_num,HK1,hk2'⟩,by simp [intOf];omega⟩
   ·have HT:=Ac htt
    have hyl:ys.length≤1099511627776:=by rw [hm.out];omega
    clear HK htt
    go_wp2
    go_region_with (first
     | (go_at_call_of 268 v1;refine (Mo _ v1 xs k ha.drew hl hk2).mono ?_;rintro e w1 ⟨gu,us,rfl,hou,hub,huv,hul,hug,hg1⟩)
     | (go_at_call 268;refine (Mo _ _ ys k (hb'.drew.more hg1) hyl hk2).mono ?_;rw [hm.out];rintro e w2 ⟨gv,vs,rfl,hov,hvb,hvv,hvl,hvg,hg2⟩))
    have hv':=(hov.nums hvb (n:=m+2+1) (c:=m+2+1) hvl.symm (by omega) (by omega)).take (m+2) (by omega)
    obtain ⟨L,hL⟩:∃ L,xs.length=L+m+1:=⟨xs.length-m-1,by omega⟩
    have hst:=Ac (Um hm.out HX.out (by rw [←HT.out];omega) (by rw [←HT.out];omega) hk2 ha.2 (hb'.2) hL hub huv hul hvb hvv (by rw [hvl,hm.out]))
    have HL:=Ac hL
    have hLl:L+m+1≤1099511627776:=by omega
    have hsz1:=hou.lt
    have hsz2:=hov.lt
    have hg02:=Ae (B4 hg1) hg2
    have hou2:=hou.more hg2
    have bvs:=hv'.lt
    have hmk:=Fx (P:=Tryz.prog) 47 56 Tryz.underlying47 Fh L (by omega) ((xs.length:Int)+1-((m:Int)+2)) (by omega)
    obtain ⟨vl,hvs⟩:∃ vl,vl=vs.take (m+2):=⟨_,rfl⟩
    rw [←hvs] at hv' bvs hst
    clear hou hov hvb hvv hub huv hg1 hg2 hvs hvl hul hL hb' ha hyl htop bx
    go_wp2
    have hgq:w2.grownBy (w2.alloc (M8 L 56)) none:=Af _ _ _
    go_loopw [10] (fun jv wr=>∃ (J:Nat) (us q:List Nat),J≤L∧jv=.int .i64 ((J:Int)-1)∧w2.grownBy wr (some gu)∧w2.heap.size<wr.heap.size∧OwnNums wr gu us∧OwnNums wr w2.heap.size q∧
      Hid (Longs (val 4294967296 xs*2 ^ k) (val 4294967296 vl) L (m+2) J us q xs.length)) (fun jv _=>(intOf jv+1).toNat)
    case atStart=>exact ⟨L,us,_,by omega,Bl (by have:=HL.out;omega),C0 hgq,by simp,hou2.more hgq,OwnNums.made _ _ _,hst.out.longs⟩
    case round =>
     clear hou2 hmk hgq
     obtain ⟨J,us,q,hJ,rfl,hg,hwz,hou,hoq,hlg⟩:=hrel
     by_cases hJ0:0<J
     ·obtain ⟨j,rfl⟩:∃ j,J=j+1:=⟨J-1,by omega⟩
      have hL:=HL.out
      have hulen:=hlg.out.ul
      have hqlen:=hlg.out.ql
      have ub:=hlg.out.ub
      have c0:=hou.cell (j+(m+2)) (by omega)
      have c1:=hou.cell (j+(m+1)) (by omega)
      have c2:=hou.cell (j+m) (by omega)
      have nvl:Nums wr _ vl:=hv'.apart hg (by simp [Value.ownBlock];omega)
      have b0:=Eq (B:=4294967296) (by omega) ub (j+(m+2))
      have b1:=Eq (B:=4294967296) (by omega) ub (j+(m+1))
      have b2:=Eq (B:=4294967296) (by omega) ub (j+m)
      rw [List.getD_eq_getElem?_getD] at b0 b1 b2
      have b3:=bvs (m+1)
      have b4:=bvs m
      have hv1:=hst.out.v1
      have hvc:=nvl.cells.2.2.2
      have hvlen:=hst.out.vlen
      have c3:=hvc (m+1) (by omega)
      have c4:=hvc m (by omega)
      rw [Nat.zero_add] at c3 c4
      clear hvc hvlen
      have hwin:=hlg.out.window hst.out.vlt (show j+(m+2+1)≤xs.length+1 by omega)
      have hWv:=A16 us j m
      have hVv:=A15 hst.out.vlen
      have hwl:win 4294967296 us j m<4294967296 ^ m:=Vd 4294967296 ub (by omega) j m
      have hvlo:val 4294967296 (vl.take m)<4294967296 ^ m:=by
       have:=Ef 4294967296 (vl.take m) (fun e he=>nvl.2 e (List.mem_of_mem_take he))
       rwa [show (vl.take m).length=m by simp;have:=hst.out.vlen;omega] at this
      generalize us[j+(m+2)]?.getD 0=u0 at *
      generalize us[j+(m+1)]?.getD 0=u1 at *
      generalize us[j+m]?.getD 0=u2 at *
      generalize vl[m+1]?.getD 0=x1 at *
      generalize vl[m]?.getD 0=x2 at *
      have HWv:=Ac hWv
      have HVv:=Ac hVv
      have Hwl:=Ac hwl
      have Hvlo:=Ac hvlo
      have Hwin:=Ac hwin
      have Hub:=Ac ub
      have HU:=Ac hulen
      have HQ:=Ac hqlen
      have hjm:j+(m+2)≤xs.length:=by omega
      clear hWv hVv hwl hvlo hwin ub bvs hulen hqlen hL
      have eo:=Qw u0 u1 b0 b1
      obtain ⟨top,htp⟩:∃ top,top=u0*4294967296+u1:=⟨_,rfl⟩
      have htl:top<18446744073709551616:=by omega
      rw [←htp] at eo HWv
      clear htp
      have s1:IntKind.i64.wrap ((j:Int)+((m:Int)+2))=(j:Int)+((m:Int)+2):=IntWalk.i64_in _ (by omega)
      have s2:IntKind.i64.wrap ((j:Int)+((m:Int)+2)-1)=(j:Int)+((m:Int)+2)-1:=IntWalk.i64_in _ (by omega)
      have s3:(0:Int)≤(j:Int)+((m:Int)+2):=by omega
      have s4:((j:Int)+((m:Int)+2)).toNat=j+(m+2):=by omega
      have s5:(j:Int)+((m:Int)+2)<(xs.length:Int)+1:=by have:=HL.out;omega
      have s6:(0:Int)≤(j:Int)+((m:Int)+2)-1:=by omega
      have s7:((j:Int)+((m:Int)+2)-1).toNat=j+(m+1):=by omega
      have s8:(j:Int)+((m:Int)+2)-1<(xs.length:Int)+1:=by have:=HL.out;omega
      have e1:(((j+1:Nat):Int)-1)=(j:Int):=by omega
      rw [e1]
      clear e1
      go_wp2
      go_quiet (fail)
      clear s1 s2 s3 s4 s5 s6 s7 s8 eo
      have r1:IntKind.i64.wrap ((m:Int)+2-1)=(m:Int)+2-1:=IntWalk.i64_in _ (by omega)
      have r2:(0:Int)≤(m:Int)+2-1:=by omega
      have r3:((m:Int)+2-1).toNat=m+1:=by omega
      have r4:(m:Int)+2-1<(m:Int)+2:=by omega
      have r5:((x1:Int)==0)=false:=by simp;omega
      obtain ⟨d0,hd0⟩:∃ d0,d0=top/x1:=⟨_,rfl⟩
      obtain ⟨r0,hr0⟩:∃ r0,r0=top % x1:=⟨_,rfl⟩
      have dl:d0≤top:=by rw [hd0];exact Nat.div_le_self _ _
      have rl:r0<x1:=by rw [hr0];exact Nat.mod_lt _ hv1
      have r6:IntKind.u64.wrap ((top:Int).tdiv (x1:Int))=(d0:Int):=by
       rw [Int.tdiv_eq_ediv_of_nonneg (by omega),←Int.natCast_ediv,←hd0]
       exact IntWalk.u64_in _ (by omega)
      have r7:(top:Int).tmod (x1:Int)=(r0:Int):=by
       rw [Int.tmod_eq_emod_of_nonneg (by omega),hr0,Int.natCast_emod]
      have r8:IntKind.u64.wrap ((top:Int)/(x1:Int))=(d0:Int):=by
       rw [←Int.natCast_ediv,←hd0]
       exact IntWalk.u64_in _ (by omega)
      have r9:(top:Int) % (x1:Int)=(r0:Int):=by rw [hr0,Int.natCast_emod]
      have HI:Hid (d0*x1+r0=top∧win 4294967296 us j (m+2+1)<(d0+1)*val 4294967296 vl):=by
       refine Ac ⟨?_,?_⟩
       ·rw [hd0,hr0,Nat.mul_comm];exact Nat.div_add_mod top x1
       ·rw [hd0];exact Yv HVv.out HWv.out Hwl.out b2 hv1
      clear hd0 hr0
      go_wp2
      go_quiet (fail)
      clear r1 r2 r3 r4 r5 r6 r7 r8 r9
      have hr0:r0≤4294967295:=by omega
      have hd0:d0≤18446744073709551615:=by omega
      clear dl rl htl
      go_wp2
      go_loopw [12,13] (fun dv rv wr'=>∃ (d r nn:Nat),dv=.int .u64 d∧rv=.int .u64 r∧wr'=wr.drewN nn∧r≤4294967295∧d≤18446744073709551615∧Hid (d*x1+r=top∧win 4294967296 us j (m+2+1)<(d+1)*val 4294967296 vl)) (fun dv _ _=>(intOf dv).toNat)
      case atStart=>exact ⟨d0,r0,_,rfl,rfl,World.drewN_drewN _ _ _,hr0,hd0,HI⟩
      case round =>
       clear HI hr0 hd0
       obtain ⟨d,r,nn,rfl,rfl,rfl,hr,hd,HI⟩:=hrel
       have hrr:(decide ((r:Int)≤4294967295))=true:=by simp;omega
       have r1:IntKind.i64.wrap ((m:Int)+2-2)=(m:Int)+2-2:=IntWalk.i64_in _ (by omega)
       have r2:(0:Int)≤(m:Int)+2-2:=by omega
       have r3:((m:Int)+2-2).toNat=m:=by omega
       have r4:(m:Int)+2-2<(m:Int)+2:=by omega
       have s1:IntKind.i64.wrap ((j:Int)+((m:Int)+2))=(j:Int)+((m:Int)+2):=IntWalk.i64_in _ (by omega)
       have s2:IntKind.i64.wrap ((j:Int)+((m:Int)+2)-2)=(j:Int)+((m:Int)+2)-2:=IntWalk.i64_in _ (by omega)
       have s6:(0:Int)≤(j:Int)+((m:Int)+2)-2:=by omega
       have s7:((j:Int)+((m:Int)+2)-2).toNat=j+m:=by omega
       have s8:(j:Int)+((m:Int)+2)-2<(xs.length:Int)+1:=by have:=HL.out;omega
       by_cases hdb:4294967295<d
       ·have tA:decide ((4294967295:Int)<(d:Int))=true:=by simp;omega
        have HLess:Hid (win 4294967296 us j (m+2+1)<d*val 4294967296 vl):=Ac (by
         have:=Hwin.out.2
         have:4294967296*val 4294967296 vl≤d*val 4294967296 vl:=Nat.mul_le_mul_right _ hdb
         omega)
        go_wp2
        go_quiet (fail)
        clear r1 r2 r3 r4 s1 s2 s6 s7 s8 tA hrr
        go_wp2_with fail
        ·have htop:=Vm HVv.out HWv.out Hvlo.out b4 Hwin.out.2
         have hbr:=Nk (d:=d) (by omega) HI.out.1 htop (by omega)
         have hhi:=Ac (S9 HVv.out HWv.out Hvlo.out b4 hbr.1 (by omega) hbr.2)
         have hlo:Hid (win 4294967296 us j (m+2+1)<(d-1+1)*val 4294967296 vl):=by rw [show d-1+1=d by omega];exact HLess
         have hdd:=hbr.2
         clear htop hbr
         rw [show j+(m+2)+1-j=m+2+1 by omega,show ((d:Int)-1)=((d-1:Nat):Int) by omega]
         refine (Km _ gu j (m+2) (xs.length+1-j) (d-1) _ us vl (hou.more (Az wr _ none)) Hub.out (by rw [HU.out];omega) (by rw [HU.out];omega) (by omega) (by omega) (nvl.more (Az wr _ none)) hst.out.vlen (by simp [Value.ownBlock];omega) hdd hlo hhi).mono ?_
         rintro e w3 ⟨us',rfl,ho3,hl3,hb3,hout3,hw3,hg3⟩
         have hq3:=(hoq.more (Az wr _ none)).other hg3 (by omega)
         have qc:=hq3.cell j (by rw [HQ.out];omega)
         have qf:=hq3.free j
         have HN:=Ac (hlg.out.step hst.out.vlt hst.out.vpos (show j+(m+2+1)≤xs.length+1 by omega) (by omega) hl3 hb3 hout3 hw3)
         generalize win 4294967296 us j (m+2+1)/val 4294967296 vl=dg at *
         have hgz:=Ae hg (Ae (Az wr _ _) hg3)
         have hsz3:=hg3.size
         clear hlg hw3 hout3 hb3 hl3 hg3 nvl c0 c1 c2 c3 c4
         go_wp2
         exact ⟨⟨j,us',q.set j dg,by omega,rfl,Aw hgz (Au _ _ _ _) (Nat.le_refl _),by simpa using Nat.lt_of_lt_of_le hwz hsz3,ho3.other (Au _ _ _ _) (by omega),hq3.set j dg,HN⟩,by simp [intOf]⟩
        ·refine ⟨⟨d-1,r+x1,_,Bl (by omega),Bl (by omega),rfl,by omega,by omega,Ac ⟨?_,?_⟩⟩,by simp [intOf];omega⟩
         ·rw [←HI.out.1];exact Nu (by omega)
         ·rw [show d-1+1=d by omega];exact HLess.out
       ·have tA:decide ((4294967295:Int)<(d:Int))=false:=by simp;omega
        have hp:d*x2≤4294967295*4294967295:=Nat.mul_le_mul (by omega) (by omega)
        have eo:=Qw r u2 (by omega) b2
        have eo2:IntKind.u64.wrap ((r:Int)*4294967296)=(r:Int)*4294967296:=IntWalk.u64_in _ (by omega)
        obtain ⟨p2,hp2⟩:∃ p2,p2=d*x2:=⟨_,rfl⟩
        obtain ⟨q2,hq2⟩:∃ q2,q2=r*4294967296+u2:=⟨_,rfl⟩
        have em:IntKind.u64.wrap ((d:Int)*(x2:Int))=(p2:Int):=by
         rw [hp2,Int.natCast_mul];rw [←Int.natCast_mul];exact IntWalk.u64_in _ (by omega)
        rw [←hq2] at eo
        rw [←hp2] at hp
        have HP:=Ac hp2
        have HQ2:=Ac hq2
        clear hp2 hq2
        by_cases hcmp:q2<p2
        ·have tC:decide ((q2:Int)<(p2:Int))=true:=by simp;omega
         have HLess:Hid (win 4294967296 us j (m+2+1)<d*val 4294967296 vl):=Ac (Yw HVv.out HWv.out Hwl.out HI.out.1 (by rw [←HQ2.out,←HP.out];exact hcmp))
         have hd1:1≤d:=by
          rcases Nat.eq_zero_or_pos d with h | h
          ·have:=HP.out;rw [h,Nat.zero_mul] at this;omega
          ·exact h
         go_wp2
         go_quiet (fail)
         clear r1 r2 r3 r4 s1 s2 s6 s7 s8 tA hrr eo eo2 em tC HP HQ2 hp hcmp
         go_wp2_with fail
         ·have htop:=Vm HVv.out HWv.out Hvlo.out b4 Hwin.out.2
          have hbr:=Nk (d:=d) (by omega) HI.out.1 htop (by omega)
          have hhi:=Ac (S9 HVv.out HWv.out Hvlo.out b4 hbr.1 (by omega) hbr.2)
          have hlo:Hid (win 4294967296 us j (m+2+1)<(d-1+1)*val 4294967296 vl):=by rw [show d-1+1=d by omega];exact HLess
          have hdd:=hbr.2
          clear htop hbr
          rw [show j+(m+2)+1-j=m+2+1 by omega,show ((d:Int)-1)=((d-1:Nat):Int) by omega]
          refine (Km _ gu j (m+2) (xs.length+1-j) (d-1) _ us vl (hou.more (Az wr _ none)) Hub.out (by rw [HU.out];omega) (by rw [HU.out];omega) (by omega) (by omega) (nvl.more (Az wr _ none)) hst.out.vlen (by simp [Value.ownBlock];omega) hdd hlo hhi).mono ?_
          rintro e w3 ⟨us',rfl,ho3,hl3,hb3,hout3,hw3,hg3⟩
          have hq3:=(hoq.more (Az wr _ none)).other hg3 (by omega)
          have qc:=hq3.cell j (by rw [HQ.out];omega)
          have qf:=hq3.free j
          have HN:=Ac (hlg.out.step hst.out.vlt hst.out.vpos (show j+(m+2+1)≤xs.length+1 by omega) (by omega) hl3 hb3 hout3 hw3)
          generalize win 4294967296 us j (m+2+1)/val 4294967296 vl=dg at *
          have hgz:=Ae hg (Ae (Az wr _ _) hg3)
          have hsz3:=hg3.size
          clear hlg hw3 hout3 hb3 hl3 hg3 nvl c0 c1 c2 c3 c4
          go_wp2
          exact ⟨⟨j,us',q.set j dg,by omega,rfl,Aw hgz (Au _ _ _ _) (Nat.le_refl _),by simpa using Nat.lt_of_lt_of_le hwz hsz3,ho3.other (Au _ _ _ _) (by omega),hq3.set j dg,HN⟩,by simp [intOf]⟩
         ·refine ⟨⟨d-1,r+x1,_,Bl (by omega),Bl (by omega),rfl,by omega,by omega,Ac ⟨?_,?_⟩⟩,by simp [intOf];omega⟩
          ·rw [←HI.out.1];exact Nu (by omega)
          ·rw [show d-1+1=d by omega];exact HLess.out
        ·have tC:decide ((q2:Int)<(p2:Int))=false:=by simp;omega
         go_wp2
         go_quiet (fail)
         have hhi:=Ac (Yu HVv.out HWv.out Hvlo.out hv1 HI.out.1 (by rw [←HQ2.out,←HP.out];omega) (by omega))
         have hlo:=Ac HI.out.2
         have hdd:d<4294967296:=by omega
         clear r1 r2 r3 r4 s1 s2 s6 s7 s8 tA hrr eo eo2 em tC HP HQ2 hp hcmp
         go_wp2_with fail
         rw [show j+(m+2)+1-j=m+2+1 by omega]
         refine (Km _ gu j (m+2) (xs.length+1-j) d _ us vl (hou.more (Az wr _ none)) Hub.out (by rw [HU.out];omega) (by rw [HU.out];omega) (by omega) (by omega) (nvl.more (Az wr _ none)) hst.out.vlen (by simp [Value.ownBlock];omega) hdd hlo hhi).mono ?_
         rintro e w3 ⟨us',rfl,ho3,hl3,hb3,hout3,hw3,hg3⟩
         have hq3:=(hoq.more (Az wr _ none)).other hg3 (by omega)
         have qc:=hq3.cell j (by rw [HQ.out];omega)
         have qf:=hq3.free j
         have HN:=Ac (hlg.out.step hst.out.vlt hst.out.vpos (show j+(m+2+1)≤xs.length+1 by omega) (by omega) hl3 hb3 hout3 hw3)
         generalize win 4294967296 us j (m+2+1)/val 4294967296 vl=dg at *
         have hgz:=Ae hg (Ae (Az wr _ _) hg3)
         have hsz3:=hg3.size
         clear hlg hw3 hout3 hb3 hl3 hg3 nvl c0 c1 c2 c3 c4
         go_wp2
         exact ⟨⟨j,us',q.set j dg,by omega,rfl,Aw hgz (Au _ _ _ _) (Nat.le_refl _),by simpa using Nat.lt_of_lt_of_le hwz hsz3,ho3.other (Au _ _ _ _) (by omega),hq3.set j dg,HN⟩,by simp [intOf]⟩
     ·obtain rfl:J=0:=by omega
      rw [show (((0:Nat):Int)-1) = -1 from rfl]
      have hmk3:=Fx (P:=Tryz.prog) 47 56 Tryz.underlying47 Fh (m+2) (by omega) ((m:Int)+2) (by omega)
      go_wp2
      clear hmk3
      obtain ⟨wo,rfl⟩:∃ wo:World,wo=wr:=⟨_,rfl⟩
      have hgr:wo.grownBy (wo.alloc (M8 (m+2) 56)) none:=Af _ _ _
      go_loopw [140] (fun iv w4=>∃ (i:Nat) (rs:List Nat),i≤m+2∧iv=.int .i64 i∧wo.grownBy w4 none∧OwnNums w4 wo.heap.size rs∧
       Hid (rs.length=m+2∧(∀ e∈rs,e<4294967296)∧2 ^ k*val 4294967296 (rs.take i)+us[0]?.getD 0 % 2 ^ k=val 4294967296 (us.take i)+4294967296 ^ i*(us[i]?.getD 0 % 2 ^ k))) (fun iv _=>m+2-(intOf iv).toNat)
      case atStart=>exact ⟨0,_,by omega,rfl,hgr,OwnNums.made _ _ _,by simp,by simp,by simp [val]⟩
      case round =>
       clear hgr
       obtain ⟨i,rs,hi,rfl,hg4,ho4,hr4⟩:=hrel
       have hulen:=hlg.out.ul
       have hL:=HL.out
       by_cases hlt:i<m+2
       ·have c0:=Aj hg4 (hou.cell i (by omega)) (by simp)
        have c1:=Aj hg4 (hou.cell (i+1) (by omega)) (by simp)
        have c2:=ho4.cell i (by rw [hr4.out.1];omega)
        have c3:=ho4.free i
        obtain ⟨x',hx'⟩:∃ x',us[i]?.getD 0=x':=⟨_,rfl⟩
        obtain ⟨y',hy'⟩:∃ y',us[i+1]?.getD 0=y':=⟨_,rfl⟩
        have hds:=Wp hk2 hlg.out.ub x' y' hx' hy'
        rw [hx'] at c0
        rw [hy'] at c1
        have bx':=Eq (B:=4294967296) (by omega) hlg.out.ub i
        have by'':=Eq (B:=4294967296) (by omega) hlg.out.ub (i+1)
        rw [List.getD_eq_getElem?_getD] at bx' by''
        rw [hx'] at bx'
        rw [hy'] at by''
        have HX':=Ac hx'
        have HY':=Ac hy'
        have HD:=Ac hds
        have s1:IntKind.i64.wrap ((i:Int)+1)=(i:Int)+1:=IntWalk.i64_in _ (by omega)
        have s2:(0:Int)≤(i:Int)+1:=by omega
        have s3:((i:Int)+1).toNat=i+1:=by omega
        have s4:(i:Int)+1<(xs.length:Int)+1:=by omega
        have s5:(i:Int)<(xs.length:Int)+1:=by omega
        clear hx' hy' hds hulen hL hlg hst hv' hvg hug
        go_wp2
        go_still_tail 20,(by kernel_rfl)
        change wpList _ _ _ _ _ wr.drew
        go_wp2
        rw [Ys hk2 bx' by'']
        exact ⟨⟨i+1,_,by omega,by go_num,Ae (Aw hg4 (Au _ _ _ _) (Nat.le_refl _)) (Ai _ _),(ho4.set i (x'/2 ^ k+y'*2 ^ (32-k) % 4294967296)).more (Ai _ _),Ac (Yr hr4.out hlt HX'.out HY'.out HD.out)⟩,by simp [intOf];omega⟩
       ·obtain rfl:i=m+2:=by omega
        go_wp2
        go_ret2
        have hvlast:=Wx hk2 hst.out hlg.out hr4.out hL
        exact ⟨_,q,_,rs,rfl,((hoq.more hg4).nums hlg.out.qb hlg.out.ql.symm (by rw [hlg.out.ql];omega) (by omega)),ho4.nums hr4.out.2.1 hr4.out.1.symm (by rw [hr4.out.1];omega) (by omega),hvlast.1,hvlast.2,by rw [hlg.out.ql];omega,by rw [hr4.out.1];omega,Ae (Aw hg02 hg hug) hg4⟩
 rw [←hbl] at hargs
 exact hargs
end
end Go.Proofs.YtckbiimikeiejaaGreatDoor
