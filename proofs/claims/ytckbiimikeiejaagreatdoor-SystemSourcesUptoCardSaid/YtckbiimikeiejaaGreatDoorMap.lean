/- RefJ RefK RefM RefQ RefL. -/
import Derived.Test.YtckbiimikeiejaaGreatDoorMao
import Derived.Deep.RegionHeld3
set_option linter.unusedVariables false
set_option linter.unusedSimpArgs false
set_option maxHeartbeats 40000000
namespace Go.Proofs.YtckbiimikeiejaaGreatDoor
section
open Go.RowKit Go.Maps
open Rat
theorem Kb {a b c:World} {row:Option Nat} {e:TypeId} {size n:Nat} {v:Value} {xs:List Value} (h:a.grownBy b row) (ho:OwnQ b a.heap.size e size v n xs) (k:b.grownBy c v.ownBlock):a.grownBy c row:=by
 rcases ho.1.2 with ⟨rfl,_⟩ | ⟨g,cap,cur,rfl,hb,_⟩
 ·exact Ae h (C0 k)
 ·exact Aw h k hb
set_option maxRecDepth 100000 in
theorem Rm (w:World) (z:Int) (h1:-9223372036854775808≤z) (h2:z≤9223372036854775807) :
  Calls Tryz.prog 160 #[.int .i64 z] w fun e w'=>∃ nv,e=.returned nv∧NZ w' nv z∧w.grownBy w' none:=by
 have gw:=Ae (Af w (.cells #[.bool false,.slice none 0 0] 139) none) (Af _ (.cells #[.bool false,.slice none 0 0] 139) none)
 have hB1:=(Blk.new w #[.bool false,.slice none 0 0] 139).more (Af _ (.cells #[.bool false,.slice none 0 0] 139) none)
 have hB2:=Blk.new (w.alloc (.cells #[.bool false,.slice none 0 0] 139)) #[.bool false,.slice none 0 0] 139
 rw [World.size_alloc] at hB2
 have HGW:=Ac gw
 have HB1:=Ac hB1
 have HB2:=Ac hB2
 clear gw hB1 hB2
 by_cases hz:z<0
 ·obtain ⟨N,rfl⟩:∃ N:Nat,z = -(N:Int):=⟨z.natAbs,by omega⟩
  have c1:IntKind.u64.wrap (-(N:Int))=18446744073709551616-N:=by rw [IntKind.wrap_u64];omega
  have c2:IntKind.u64.wrap (0-(18446744073709551616-(N:Int)))=N:=by rw [IntKind.wrap_u64];omega
  have c3:IntKind.u64.wrap (-(18446744073709551616-(N:Int)))=N:=by rw [IntKind.wrap_u64];omega
  have t0:-(N:Int)<0:=hz
  have HSG:Hid (decide (-(N:Int)<0)=true):=Ac (decide_eq_true hz)
  have HD16:Hid (d16 (-(N:Int))=dig 65536 N):=Ac (by unfold d16;rw [Int.natAbs_neg];rfl)
  clear hz
  obtain ⟨d0,d1,f0,f1⟩:=HB2.out.two
  go_enter Tryz.func160,Tryz.ntmps160
  go_wp2_with fail
  have HGW:=Ac (Ae (Af w (.cells #[.bool false,.slice none 0 0] 139) none) (Af _ (.cells #[.bool true,.slice none 0 0] 139) none))
  have HB1:=Ac ((Blk.new w #[.bool false,.slice none 0 0] 139).more (Af _ (.cells #[.bool true,.slice none 0 0] 139) none))
  have hB2:=Blk.new (w.alloc (.cells #[.bool false,.slice none 0 0] 139)) #[.bool true,.slice none 0 0] 139
  rw [World.size_alloc] at hB2
  have HB2:=Ac hB2
  clear d0 d1 f0 f1 hB2
  generalize (w.alloc (.cells #[.bool false,.slice none 0 0] 139)).alloc (.cells #[.bool true,.slice none 0 0] 139)=wa at *
  generalize hs:w.heap.size=s at *
  have HS:=Ac hs
  clear hs c1 c2 c3 t0
  go_loopw [4] (fun mv wr=>∃ m:Nat,mv=.int .u64 m∧Hid (m≤N∧∃ (k:Nat) (ds:List Nat) (Ab:Option Addr) (cb:Nat),wa.grownBy wr (some (s+1))∧Hid (Blk wr (s+1) #[.bool true,.slice Ab k cb])∧Hid (OwnQ wr wa.heap.size 3 1 (.slice Ab k cb) k (i64s ds))∧Hid (dig 65536 N=ds++dig 65536 m))) (fun mv _=>(intOf mv).toNat)
  case atStart=>exact ⟨N,rfl,Ac ⟨Nat.le_refl _,0,[],none,0,Al _ _,HB2,Ac (OwnQ.nil _ _ _ _),Ac rfl⟩⟩
  case round =>
   obtain ⟨m,rfl,hrr⟩:=hrel
   obtain ⟨hmN,k,ds,Ab,cb,hg,hblk,hown,hdig⟩:=hrr.out
   clear hrr
   obtain ⟨d0,d1,f0,f1⟩:=hblk.out.two
   have hlt2:=HB2.out.lt
   have hne:(Value.slice Ab k cb).ownBlock≠some (s+1):=fun e=>by have:=hown.out.from _ e;omega
   have HNE:=Ac hne
   have hkd:ds.length=k:=by have:=hown.out.1.1;simpa [i64s] using this
   have HKD:=Ac hkd
   by_cases hm:0<m
   ·have hk4:k≤4:=by
     have a:=(Bz 65536 (by omega) N 4).2 (by omega)
     rw [hdig.out,List.length_append] at a
     omega
    have r1:(m:Int).tmod 65536=(m:Int) % 65536:=Int.tmod_eq_emod_of_nonneg (by omega)
    have r2:(m:Int).tdiv 65536=(m:Int)/65536:=Int.tdiv_eq_ediv_of_nonneg (by omega)
    have r3:IntKind.i64.wrap ((m:Int) % 65536)=(m:Int) % 65536:=IntWalk.i64_in _ (by omega)
    have r4:IntKind.u64.wrap ((m:Int)/65536)=(m:Int)/65536:=IntWalk.u64_in _ (by omega)
    have r5:IntKind.u64.wrap ((m:Int) % 65536)=(m:Int) % 65536:=IntWalk.u64_in _ (by omega)
    have hs1:=hg.size
    have HM:=Ac hm
    have HG:=Ac hg
    have HMN:=Ac hmN
    clear hne hkd hg hmN
    go_wp2_with (first
     | (at_builtin;refine Cu wa.heap.size rfl (.tmp 15) (.tmp 19) 30 3 (.int .i64 0) 1 8 rfl Tryz.underlying30 Cm rfl (by omega) (by omega) (.slice Ab k cb) k (i64s ds) #[.int .i64 ((m:Int) % 65536)] (by rfl) hown.out (by rfl) (by rfl) (by simp [Value.oneCell']) (by omega) (by omega) (E9 _) E8 ?_;intro g cap w3 hown3 hgrow;obtain ⟨d0,d1,f0,f1⟩:=((hblk.out.more (Af _ _ _)).row hgrow HNE.out).two;have HX:=Ac ((hblk.out.more (Af _ _ _)).row hgrow HNE.out);have H3:=Ac (And.intro hown3 hgrow);clear hown3 hgrow)
     | fail)
    have hm:=HM.out
    have hmn:=HMN.out
    have hgr:=Ae (Kb (Ae HG.out (Af _ _ _)) (hown.out.more (Af _ _ _)) H3.out.2) (Au w3 (s+1) 1 (.slice (some ⟨g,0,none⟩) (k+1) cap))
    have hbl:=Ac (show Blk _ (s+1) #[.bool true,.slice (some ⟨g,0,none⟩) (k+1) cap] from HX.out.set 1 (.slice (some ⟨g,0,none⟩) (k+1) cap))
    have how:Hid (OwnQ (w3.setCell ⟨s+1,1,none⟩ (.slice (some ⟨g,0,none⟩) (k+1) cap)) wa.heap.size 3 1 (.slice (some ⟨g,0,none⟩) (k+1) cap) (k+1) (i64s (ds++[m % 65536]))):=Ac (by
     have h3:=H3.out.1
     have hgs:=h3.from g rfl
     have hlt2:=HB2.out.lt
     have h4:=h3.other (Au w3 (s+1) 1 (.slice (some ⟨g,0,none⟩) (k+1) cap)) (by simp [Value.ownBlock];omega)
     unfold i64s at *
     rw [List.map_append]
     simpa using h4)
    have hdg:Hid (dig 65536 N=(ds++[m % 65536])++dig 65536 (m/65536)):=Ac (by rw [hdig.out,G8 65536 m (by omega) (by omega),List.append_assoc];rfl)
    have hle:m/65536≤N:=by omega
    exact ⟨⟨m/65536,by first | rfl | go_num | omega,by first | exact Ac ⟨hle,k+1,_,_,_,hgr,hbl,how,hdg⟩ | exact Ac ⟨hle,hgr,k+1,_,_,_,hbl,how,hdg⟩⟩,by simp [intOf];omega⟩
   ·obtain rfl:m=0:=by omega
    have hdn:dig 65536 N=ds:=by rw [hdig.out,Dw,List.append_nil]
    have hd:D16 wr (.slice Ab k cb) ds:=hown.out.d16 HKD.out.symm (by rw [←hdn];exact Ev 65536 (by omega) N)
    have HD:=Ac hd
    have HDN:=Ac hdn
    have hlt1:=HB1.out.lt
    obtain ⟨x0,x1,y0,y1⟩:=(HB1.out.other hg (by omega)).two
    have hfar:(Value.slice Ab k cb).ownBlock≠some s:=fun e=>by have:=hown.out.from _ e;omega
    have HFAR:=Ac hfar
    have HG:=Ac (Aw HGW.out hg (by have:=HS.out;omega))
    clear hdn hd hfar hne hkd hg hdig hown
    go_wp2
    try simp only [Exit.inBlock,Exit.then]
    have hg6:wr.grownBy ((wr.setCell ⟨s,0,none⟩ (.bool true)).setCell ⟨s,1,none⟩ (.slice Ab k cb)) (some s):=Ae (Au _ _ _ _) (Au _ _ _ _)
    refine bodyPost_ret (v:=.agg #[.bool true,.slice Ab k cb]) (by simp [results,Tryz.results160,go_sem, *]) rfl ⟨_,rfl,⟨.slice Ab k cb,?_,?_⟩,Aw HG.out hg6 (by have:=HS.out;omega)⟩
    ·rw [HSG.out]
    ·have:=HD.out.apart hg6 HFAR.out
     rw [←HDN.out] at this
     rw [HD16.out];exact this
 ·have c1:IntKind.u64.wrap z=z:=IntWalk.u64_in _ (by omega)
  obtain ⟨N,rfl⟩:∃ N:Nat,z=N:=⟨z.toNat,by omega⟩
  have t0:¬ (N:Int)<0:=hz
  clear hz
  go_enter Tryz.func160,Tryz.ntmps160
  go_wp2_with fail
  generalize (w.alloc (.cells #[.bool false,.slice none 0 0] 139)).alloc (.cells #[.bool false,.slice none 0 0] 139)=wa at *
  generalize hs:w.heap.size=s at *
  have HS:=Ac hs
  clear hs
  have HSG:Hid (decide ((N:Int)<0)=false):=Ac (decide_eq_false (by omega))
  have HD16:Hid (d16 (N:Int)=dig 65536 N):=Ac rfl
  go_loopw [4] (fun mv wr=>∃ m:Nat,mv=.int .u64 m∧Hid (m≤N∧∃ (k:Nat) (ds:List Nat) (Ab:Option Addr) (cb:Nat),wa.grownBy wr (some (s+1))∧Hid (Blk wr (s+1) #[.bool false,.slice Ab k cb])∧Hid (OwnQ wr wa.heap.size 3 1 (.slice Ab k cb) k (i64s ds))∧Hid (dig 65536 N=ds++dig 65536 m))) (fun mv _=>(intOf mv).toNat)
  case atStart=>exact ⟨N,rfl,Ac ⟨Nat.le_refl _,0,[],none,0,Al _ _,HB2,Ac (OwnQ.nil _ _ _ _),Ac rfl⟩⟩
  case round =>
   obtain ⟨m,rfl,hrr⟩:=hrel
   obtain ⟨hmN,k,ds,Ab,cb,hg,hblk,hown,hdig⟩:=hrr.out
   clear hrr
   obtain ⟨d0,d1,f0,f1⟩:=hblk.out.two
   have hlt2:=HB2.out.lt
   have hne:(Value.slice Ab k cb).ownBlock≠some (s+1):=fun e=>by have:=hown.out.from _ e;omega
   have HNE:=Ac hne
   have hkd:ds.length=k:=by have:=hown.out.1.1;simpa [i64s] using this
   have HKD:=Ac hkd
   by_cases hm:0<m
   ·have hk4:k≤4:=by
     have a:=(Bz 65536 (by omega) N 4).2 (by omega)
     rw [hdig.out,List.length_append] at a
     omega
    have r1:(m:Int).tmod 65536=(m:Int) % 65536:=Int.tmod_eq_emod_of_nonneg (by omega)
    have r2:(m:Int).tdiv 65536=(m:Int)/65536:=Int.tdiv_eq_ediv_of_nonneg (by omega)
    have r3:IntKind.i64.wrap ((m:Int) % 65536)=(m:Int) % 65536:=IntWalk.i64_in _ (by omega)
    have r4:IntKind.u64.wrap ((m:Int)/65536)=(m:Int)/65536:=IntWalk.u64_in _ (by omega)
    have r5:IntKind.u64.wrap ((m:Int) % 65536)=(m:Int) % 65536:=IntWalk.u64_in _ (by omega)
    have hs1:=hg.size
    have HM:=Ac hm
    have HG:=Ac hg
    have HMN:=Ac hmN
    clear hne hkd hg hmN
    go_wp2_with (first
     | (at_builtin;refine Cu wa.heap.size rfl (.tmp 15) (.tmp 19) 30 3 (.int .i64 0) 1 8 rfl Tryz.underlying30 Cm rfl (by omega) (by omega) (.slice Ab k cb) k (i64s ds) #[.int .i64 ((m:Int) % 65536)] (by rfl) hown.out (by rfl) (by rfl) (by simp [Value.oneCell']) (by omega) (by omega) (E9 _) E8 ?_;intro g cap w3 hown3 hgrow;obtain ⟨d0,d1,f0,f1⟩:=((hblk.out.more (Af _ _ _)).row hgrow HNE.out).two;have HX:=Ac ((hblk.out.more (Af _ _ _)).row hgrow HNE.out);have H3:=Ac (And.intro hown3 hgrow);clear hown3 hgrow)
     | fail)
    have hm:=HM.out
    have hmn:=HMN.out
    have hgr:=Ae (Kb (Ae HG.out (Af _ _ _)) (hown.out.more (Af _ _ _)) H3.out.2) (Au w3 (s+1) 1 (.slice (some ⟨g,0,none⟩) (k+1) cap))
    have hbl:=Ac (show Blk _ (s+1) #[.bool false,.slice (some ⟨g,0,none⟩) (k+1) cap] from HX.out.set 1 (.slice (some ⟨g,0,none⟩) (k+1) cap))
    have how:Hid (OwnQ (w3.setCell ⟨s+1,1,none⟩ (.slice (some ⟨g,0,none⟩) (k+1) cap)) wa.heap.size 3 1 (.slice (some ⟨g,0,none⟩) (k+1) cap) (k+1) (i64s (ds++[m % 65536]))):=Ac (by
     have h3:=H3.out.1
     have hgs:=h3.from g rfl
     have hlt2:=HB2.out.lt
     have h4:=h3.other (Au w3 (s+1) 1 (.slice (some ⟨g,0,none⟩) (k+1) cap)) (by simp [Value.ownBlock];omega)
     unfold i64s at *
     rw [List.map_append]
     simpa using h4)
    have hdg:Hid (dig 65536 N=(ds++[m % 65536])++dig 65536 (m/65536)):=Ac (by rw [hdig.out,G8 65536 m (by omega) (by omega),List.append_assoc];rfl)
    have hle:m/65536≤N:=by omega
    exact ⟨⟨m/65536,by first | rfl | go_num | omega,by first | exact Ac ⟨hle,k+1,_,_,_,hgr,hbl,how,hdg⟩ | exact Ac ⟨hle,hgr,k+1,_,_,_,hbl,how,hdg⟩⟩,by simp [intOf];omega⟩
   ·obtain rfl:m=0:=by omega
    have hdn:dig 65536 N=ds:=by rw [hdig.out,Dw,List.append_nil]
    have hd:D16 wr (.slice Ab k cb) ds:=hown.out.d16 HKD.out.symm (by rw [←hdn];exact Ev 65536 (by omega) N)
    have HD:=Ac hd
    have HDN:=Ac hdn
    have hlt1:=HB1.out.lt
    obtain ⟨x0,x1,y0,y1⟩:=(HB1.out.other hg (by omega)).two
    have hfar:(Value.slice Ab k cb).ownBlock≠some s:=fun e=>by have:=hown.out.from _ e;omega
    have HFAR:=Ac hfar
    have HG:=Ac (Aw HGW.out hg (by have:=HS.out;omega))
    clear hdn hd hfar hne hkd hg hdig hown
    go_wp2
    try simp only [Exit.inBlock,Exit.then]
    have hg6:wr.grownBy ((wr.setCell ⟨s,0,none⟩ (.bool false)).setCell ⟨s,1,none⟩ (.slice Ab k cb)) (some s):=Ae (Au _ _ _ _) (Au _ _ _ _)
    refine bodyPost_ret (v:=.agg #[.bool false,.slice Ab k cb]) (by simp [results,Tryz.results160,go_sem, *]) rfl ⟨_,rfl,⟨.slice Ab k cb,?_,?_⟩,Aw HG.out hg6 (by have:=HS.out;omega)⟩
    ·rw [HSG.out]
    ·have:=HD.out.apart hg6 HFAR.out
     rw [←HDN.out] at this
     rw [HD16.out];exact this
end
section
theorem A06 {os:List Nat} {p i j a y c V W:Nat} (hp:p=i+j) (hlt:p<os.length) (h:val 65536 os+65536 ^ p*c=V+65536 ^ i*(a*W)) :
  val 65536 (os.set p ((os[p]?.getD 0+a*y+c) % 65536))+65536 ^ (p+1)*((os[p]?.getD 0+a*y+c)/65536)=V+65536 ^ i*(a*(W+65536 ^ j*y)):=by
 have e:=N3 65536 os p ((os[p]?.getD 0+a*y+c) % 65536) hlt
 have d:=Nat.mod_add_div (os[p]?.getD 0+a*y+c) 65536
 have hpp:65536 ^ p=65536 ^ i*65536 ^ j:=by rw [hp,Nat.pow_add]
 generalize (os[p]?.getD 0+a*y+c) % 65536=r at *
 generalize (os[p]?.getD 0+a*y+c)/65536=q at *
 generalize os[p]?.getD 0=u at *
 rw [Nat.pow_succ]
 generalize val 65536 (os.set p r)=s at *
 generalize val 65536 os=t at *
 have d2:65536 ^ p*r+65536 ^ p*65536*q=65536 ^ p*(a*y)+65536 ^ p*u+65536 ^ p*c:=by
  have:65536 ^ p*(r+65536*q)=65536 ^ p*(u+a*y+c):=by rw [d]
  grind
 have d3:65536 ^ p*(a*y)=65536 ^ i*(a*(65536 ^ j*y)):=by rw [hpp];grind
 have d4:65536 ^ i*(a*(W+65536 ^ j*y))=65536 ^ i*(a*W)+65536 ^ i*(a*(65536 ^ j*y)):=by grind
 rw [d4,←d3]
 omega
theorem Xs {a y u c:Nat} (ha:a<65536) (hy:y<65536) (hu:u<65536) (hc:c<65536):u+a*y+c≤4294967295:=by
 have:a*y≤65535*65535:=Nat.mul_le_mul (by omega) (by omega)
 omega
def TimIn (os xs ys:List Nat) (k j cy:Nat):Prop :=
 os.length=xs.length+ys.length∧(∀ d∈os,d<65536)∧(∀ p,k+ys.length≤p→os[p]?.getD 0=0)∧val 65536 os+65536 ^ (k+j)*cy=val 65536 (xs.take k)*val 65536 ys+65536 ^ k*(xs[k]?.getD 0*val 65536 (ys.take j))
def TimOut (os xs ys:List Nat) (k:Nat):Prop :=
 os.length=xs.length+ys.length∧(∀ d∈os,d<65536)∧(∀ p,k+ys.length≤p→os[p]?.getD 0=0)∧val 65536 os=val 65536 (xs.take k)*val 65536 ys
theorem TimOut.start (xs ys:List Nat):TimOut (List.replicate (xs.length+ys.length) 0) xs ys 0 :=
 ⟨by simp,by simp,fun p _=>by simp [List.getElem?_replicate];split<;>rfl,by simp [val,I5]⟩
theorem TimOut.enter {os xs ys:List Nat} {k:Nat} (h:TimOut os xs ys k):TimIn os xs ys k 0 0:=⟨h.1,h.2.1,h.2.2.1,by simp [val];exact h.2.2.2⟩
theorem TimIn.step {os xs ys:List Nat} {k j cy:Nat} (h:TimIn os xs ys k j cy) (hk:k<xs.length) (hj:j<ys.length) :
  TimIn (os.set (k+j) ((os[k+j]?.getD 0+xs[k]?.getD 0*ys[j]?.getD 0+cy) % 65536)) xs ys k (j+1) ((os[k+j]?.getD 0+xs[k]?.getD 0*ys[j]?.getD 0+cy)/65536):=by
 obtain ⟨h1,h2,h3,h4⟩:=h
 refine ⟨by simpa using h1,Ey h2 _ _ (Nat.mod_lt _ (by omega)),fun p hp=>by rw [List.getElem?_set_ne (by omega)];exact h3 p hp,?_⟩
 have:=A06 (j:=j) (y:=ys[j]?.getD 0) rfl (by omega) h4
 rw [B7,List.getD_eq_getElem?_getD]
 exact this
theorem TimIn.leave {os xs ys:List Nat} {k cy:Nat} (h:TimIn os xs ys k ys.length cy) (hk:k<xs.length) (hc:cy<65536):TimOut (os.set (k+ys.length) cy) xs ys (k+1):=by
 obtain ⟨h1,h2,h3,h4⟩:=h
 refine ⟨by simpa using h1,Ey h2 _ _ hc,fun p hp=>by rw [List.getElem?_set_ne (by omega)];exact h3 p (by omega),?_⟩
 have:=N3 65536 os (k+ys.length) cy (by omega)
 rw [h3 _ (Nat.le_refl _)] at this
 rw [List.take_length] at h4
 rw [B7,List.getD_eq_getElem?_getD]
 have e:(val 65536 (xs.take k)+65536 ^ k*xs[k]?.getD 0)*val 65536 ys=val 65536 (xs.take k)*val 65536 ys+65536 ^ k*(xs[k]?.getD 0*val 65536 ys):=by grind
 omega
theorem TimOut.end {os xs ys:List Nat} (h:TimOut os xs ys xs.length):val 65536 os=val 65536 xs*val 65536 ys:=by
 have:=h.2.2.2;rwa [List.take_length] at this
/-! ### two digits of 16 bits as one of 32 -/
def Bg:List Nat→List Nat
 | []=>[]
 | [a]=>[a]
 | a::b::l=>(a+65536*b)::Bg l
theorem Y5:∀ l,(Bg l).length=(l.length+1)/2
 | []=>by simp [Bg]
 | [_]=>by simp [Bg]
 | a::b::l=>by simp only [Bg,List.length_cons,Y5 l];omega
theorem A2j:∀ l,val 4294967296 (Bg l)=val 65536 l
 | []=>rfl
 | [_]=>rfl
 | a::b::l=>by simp only [Bg,val,A2j l];omega
theorem A36:∀ {l:List Nat},(∀ x∈l,x<65536)→∀ y∈Bg l,y<4294967296
 | [],_=>by simp [Bg]
 | [a],h=>by intro y hy;simp [Bg] at hy;subst hy;have:=h y (by simp);omega
 | a::b::l,h=>by
  intro y hy
  simp only [Bg,List.mem_cons] at hy
  rcases hy with rfl | hy
  ·have:=h a (by simp);have:=h b (by simp);omega
  ·exact A36 (fun x hx=>h x (by simp [hx])) y hy
theorem A3k:∀ {l:List Nat},Bg l=[]→l=[]
 | [],_=>rfl
 | [_],h=>by simp [Bg] at h
 | _::_::_,h=>by simp [Bg] at h
theorem A29:∀ {l:List Nat},Iw l→Iw (Bg l)
 | [],_=>fun h=>absurd rfl h
 | [a],h=>h
 | [a,b],h=>by
  intro _
  have:=h (by simp)
  simp [Bg] at *
  omega
 | a::b::c::l,h=>by
  have hc:Iw (c::l):=by
   intro hne
   have:=h (by simp)
   simpa using this
  have ih:=A29 hc
  have hne:Bg (c::l)≠[]:=fun e=>by have:=A3k e;simp at this
  intro _
  have:=ih hne
  simp only [Bg]
  rw [List.getLast_cons hne]
  exact this
theorem A3j (n:Nat):Bg (dig 65536 n)=dig 4294967296 n:=by
 have h:=Vk 4294967296 (by omega) (Bg (dig 65536 n)) (A36 (Ev 65536 (by omega) n)) (A29 (Pe 65536 (by omega) n))
 rw [A2j,Ck 65536 (by omega)] at h
 exact h.symm
theorem A42 (z:Int):((d16 z).length+1)/2=lim z:=by
 unfold d16 lim digs
 rw [←Y5,A3j]
theorem A3g (z:Int):(d16 z).length≤2*lim z:=by have:=A42 z;omega
end
section
open Go.RowKit Go.Maps
open Rat
theorem D16.keep {w w':World} {v:Value} {ds:List Nat} {zb:Nat} {cs:Array Value} (h:D16 w v ds) (hz:Blk w zb cs) (hn:∀ u∈cs.toList,∀ n,u≠.int .i64 n) (hg:w.grownBy w' (some zb)):D16 w' v ds:=by
 refine ⟨?_,h.2⟩
 rcases h.1 with h1 | ⟨b,o,c,rfl,h1,h2,h3⟩
 ·exact .inl h1
 ·refine .inr ⟨b,o,c,rfl,h1,h2,fun i hi=>Aj hg (h3 i hi) ?_⟩
  intro e
  injection e with e
  subst e
  have h4:=h3 i hi
  rw [hz.cell] at h4
  obtain ⟨ho,hv⟩:=Array.getElem?_eq_some_iff.1 h4
  exact hn _ (by rw [←hv];simp) _ rfl
theorem NZ.keep {w w':World} {v:Value} {z:Int} {zb:Nat} {b:Bool} {A:Option Addr} {n c:Nat} (h:NZ w v z) (hz:Blk w zb #[.bool b,.slice A n c]) (hg:w.grownBy w' (some zb)):NZ w' v z:=by
 obtain ⟨u,rfl,h⟩:=h
 exact ⟨u,rfl,h.keep hz (by intro u hu n;simp at hu;rcases hu with rfl | rfl<;>simp) hg⟩
theorem Xd {w w':World} {base:Nat} {e:TypeId} {size n:Nat} {v:Value} {xs:List Value} (h:w.ownsRow base e size v n xs) (hg:w.grownBy w' none):w'.ownsRow base e size v n xs:=h.kept hg (by cases v.ownBlock<;>simp)
end
section
open Go.RowKit Go.Maps
open Rat
set_option maxRecDepth 100000 in
theorem F6 (w:World) (N:Nat) (h2:N≤4611686018427387904) :
  Calls Tryz.prog 192 #[.int .i64 (N:Int)] w fun e w'=>∃ nv,e=.returned nv∧NZ w' nv (N:Int)∧w.grownBy w' none:=by
 have gw:=Ae (Af w (.cells #[.bool false,.slice none 0 0] 139) none) (Af _ (.cells #[.bool false,.slice none 0 0] 139) none)
 have hB1:=(Blk.new w #[.bool false,.slice none 0 0] 139).more (Af _ (.cells #[.bool false,.slice none 0 0] 139) none)
 have hB2:=Blk.new (w.alloc (.cells #[.bool false,.slice none 0 0] 139)) #[.bool false,.slice none 0 0] 139
 rw [World.size_alloc] at hB2
 have HGW:=Ac gw
 have HB1:=Ac hB1
 have HB2:=Ac hB2
 clear gw hB1 hB2
 have t0:¬ (N:Int)<0:=by omega
 go_enter Tryz.func192,Tryz.ntmps192
 go_wp2_with fail
 generalize (w.alloc (.cells #[.bool false,.slice none 0 0] 139)).alloc (.cells #[.bool false,.slice none 0 0] 139)=wa at *
 generalize hs:w.heap.size=s at *
 have HS:=Ac hs
 clear hs
 have HSG:Hid (decide ((N:Int)<0)=false):=Ac (decide_eq_false (by omega))
 have HD16:Hid (d16 (N:Int)=dig 65536 N):=Ac rfl
 go_loopw [0] (fun mv wr=>∃ m:Nat,mv=.int .i64 m∧Hid (m≤N∧∃ (k:Nat) (ds:List Nat) (Ab:Option Addr) (cb:Nat),wa.grownBy wr (some (s+1))∧Hid (Blk wr (s+1) #[.bool false,.slice Ab k cb])∧Hid (OwnQ wr wa.heap.size 3 1 (.slice Ab k cb) k (i64s ds))∧Hid (dig 65536 N=ds++dig 65536 m))) (fun mv _=>(intOf mv).toNat)
 case atStart=>exact ⟨N,rfl,Ac ⟨Nat.le_refl _,0,[],none,0,Al _ _,HB2,Ac (OwnQ.nil _ _ _ _),Ac rfl⟩⟩
 case round =>
  obtain ⟨m,rfl,hrr⟩:=hrel
  obtain ⟨hmN,k,ds,Ab,cb,hg,hblk,hown,hdig⟩:=hrr.out
  clear hrr
  obtain ⟨d0,d1,f0,f1⟩:=hblk.out.two
  have hlt2:=HB2.out.lt
  have hne:(Value.slice Ab k cb).ownBlock≠some (s+1):=fun e=>by have:=hown.out.from _ e;omega
  have HNE:=Ac hne
  have hkd:ds.length=k:=by have:=hown.out.1.1;simpa [i64s] using this
  have HKD:=Ac hkd
  by_cases hm:0<m
  ·have hk4:k≤4:=by
    have a:=(Bz 65536 (by omega) N 4).2 (by omega)
    rw [hdig.out,List.length_append] at a
    omega
   have r1:(m:Int).tmod 65536=(m:Int) % 65536:=Int.tmod_eq_emod_of_nonneg (by omega)
   have r2:(m:Int).tdiv 65536=(m:Int)/65536:=Int.tdiv_eq_ediv_of_nonneg (by omega)
   have r3:IntKind.i64.wrap ((m:Int) % 65536)=(m:Int) % 65536:=IntWalk.i64_in _ (by omega)
   have r4:IntKind.i64.wrap ((m:Int)/65536)=(m:Int)/65536:=IntWalk.i64_in _ (by omega)
   have hs1:=hg.size
   have HM:=Ac hm
   have HG:=Ac hg
   have HMN:=Ac hmN
   clear hne hkd hg hmN
   go_wp2_with (first
    | (at_builtin;refine Cu wa.heap.size rfl (.tmp 12) (.tmp 15) 30 3 (.int .i64 0) 1 8 rfl Tryz.underlying30 Cm rfl (by omega) (by omega) (.slice Ab k cb) k (i64s ds) #[.int .i64 ((m:Int) % 65536)] (by rfl) hown.out (by rfl) (by rfl) (by simp [Value.oneCell']) (by omega) (by omega) (E9 _) E8 ?_;intro g cap w3 hown3 hgrow;obtain ⟨d0,d1,f0,f1⟩:=((hblk.out.more (Af _ _ _)).row hgrow HNE.out).two;have HX:=Ac ((hblk.out.more (Af _ _ _)).row hgrow HNE.out);have H3:=Ac (And.intro hown3 hgrow);clear hown3 hgrow)
    | fail)
   have hm:=HM.out
   have hmn:=HMN.out
   have hgr:=Ae (Kb (Ae HG.out (Af _ _ _)) (hown.out.more (Af _ _ _)) H3.out.2) (Au w3 (s+1) 1 (.slice (some ⟨g,0,none⟩) (k+1) cap))
   have hbl:=Ac (show Blk _ (s+1) #[.bool false,.slice (some ⟨g,0,none⟩) (k+1) cap] from HX.out.set 1 (.slice (some ⟨g,0,none⟩) (k+1) cap))
   have how:Hid (OwnQ (w3.setCell ⟨s+1,1,none⟩ (.slice (some ⟨g,0,none⟩) (k+1) cap)) wa.heap.size 3 1 (.slice (some ⟨g,0,none⟩) (k+1) cap) (k+1) (i64s (ds++[m % 65536]))):=Ac (by
    have h3:=H3.out.1
    have hgs:=h3.from g rfl
    have hlt2:=HB2.out.lt
    have h4:=h3.other (Au w3 (s+1) 1 (.slice (some ⟨g,0,none⟩) (k+1) cap)) (by simp [Value.ownBlock];omega)
    unfold i64s at *
    rw [List.map_append]
    simpa using h4)
   have hdg:Hid (dig 65536 N=(ds++[m % 65536])++dig 65536 (m/65536)):=Ac (by rw [hdig.out,G8 65536 m (by omega) (by omega),List.append_assoc];rfl)
   have hle:m/65536≤N:=by omega
   exact ⟨⟨m/65536,by first | rfl | go_num | omega,by first | exact Ac ⟨hle,k+1,_,_,_,hgr,hbl,how,hdg⟩ | exact Ac ⟨hle,hgr,k+1,_,_,_,hbl,how,hdg⟩⟩,by simp [intOf];omega⟩
  ·obtain rfl:m=0:=by omega
   have hdn:dig 65536 N=ds:=by rw [hdig.out,Dw,List.append_nil]
   have hd:D16 wr (.slice Ab k cb) ds:=hown.out.d16 HKD.out.symm (by rw [←hdn];exact Ev 65536 (by omega) N)
   have HD:=Ac hd
   have HDN:=Ac hdn
   have hlt1:=HB1.out.lt
   obtain ⟨x0,x1,y0,y1⟩:=(HB1.out.other hg (by omega)).two
   have hfar:(Value.slice Ab k cb).ownBlock≠some s:=fun e=>by have:=hown.out.from _ e;omega
   have HFAR:=Ac hfar
   have HG:=Ac (Aw HGW.out hg (by have:=HS.out;omega))
   clear hdn hd hfar hne hkd hg hdig hown
   go_wp2
   try simp only [Exit.inBlock,Exit.then]
   have hg6:wr.grownBy ((wr.setCell ⟨s,0,none⟩ (.bool false)).setCell ⟨s,1,none⟩ (.slice Ab k cb)) (some s):=Ae (Au _ _ _ _) (Au _ _ _ _)
   refine bodyPost_ret (v:=.agg #[.bool false,.slice Ab k cb]) (by simp [results,Tryz.results192,go_sem, *]) rfl ⟨_,rfl,⟨.slice Ab k cb,?_,?_⟩,Aw HG.out hg6 (by have:=HS.out;omega)⟩
   ·rw [HSG.out]
   ·have:=HD.out.apart hg6 HFAR.out
    rw [←HDN.out] at this
    rw [HD16.out];exact this
theorem D16.gb {w w':World} {v:Value} {ds:List Nat} (h:D16 w v ds) (hg:w.grownBy w' none):D16 w' v ds:=h.more hg
theorem Kp (w:World) (nv:Value) (z:Int) (hx:NZ w nv z) :
  Calls Tryz.prog 176 #[nv] w fun e w'=>∃ v,e=.returned v∧NZ w' v (-z)∧w.grownBy w' none:=by
 obtain ⟨v,rfl,hd⟩:=hx
 obtain ⟨A,c,rfl,hl⟩:=hd.ctor
 have g1:=Af w (.cells #[.bool (decide (z<0)),.slice A (d16 z).length c] 139) none
 have g2:=Af (w.alloc (.cells #[.bool (decide (z<0)),.slice A (d16 z).length c] 139)) (.cells #[.bool false,.slice none 0 0] 139) none
 have hB:=(Blk.new w #[.bool (decide (z<0)),.slice A (d16 z).length c] 139).more g2
 have hB2:=Blk.new (w.alloc (.cells #[.bool (decide (z<0)),.slice A (d16 z).length c] 139)) #[.bool false,.slice none 0 0] 139
 rw [World.size_alloc] at hB2
 obtain ⟨b0,b1,_⟩:=hB.two
 obtain ⟨y0,y1,f0,f1⟩:=hB2.two
 have h0:(d16 z).length=0↔z=0:=by rw [List.length_eq_zero_iff];exact L0
 have HD:=Ac hd
 have HGW:=Ac (Ae g1 g2)
 have HNG:Hid (d16 (-z)=d16 z):=Ac (by unfold d16;rw [Int.natAbs_neg])
 by_cases hz:z=0
 ·subst hz
  have HL:Hid ((d16 0).length=0):=Ac (h0.2 rfl)
  have t1:(((d16 0).length:Int)==0)=true:=by rw [HL.out];rfl
  clear h0 hd hB hB2 g1 g2
  go_enter Tryz.func176,Tryz.ntmps176
  go_wp2_with fail
  try simp only [Exit.inBlock,Exit.then]
  refine bodyPost_ret (v:=.agg #[.bool false,.slice none 0 0]) (by simp [results,Tryz.results176,go_sem, *]) rfl ⟨_,rfl,?_,HGW.out⟩
  rw [Int.neg_zero]
  exact ⟨_,rfl,D16.nil _⟩
 ·have t1:(((d16 z).length:Int)==0)=false:=by rw [beq_eq_false_iff_ne];omega
  have HSN:Hid (decide (-z<0) = !decide (z<0)):=Ac (by
   by_cases h:z<0
   ·rw [decide_eq_true h,decide_eq_false (by omega)];rfl
   ·rw [decide_eq_false h,decide_eq_true (by omega)];rfl)
  clear h0 hd hB hB2 g1 g2 hz
  generalize (d16 z).length=n at *
  generalize decide (z<0)=neg at *
  have g2:=Af (w.alloc (.cells #[.bool neg,.slice A n c] 139)) (.cells #[.bool (!neg),.slice A n c] 139) none
  have hB2:=Blk.new (w.alloc (.cells #[.bool neg,.slice A n c] 139)) #[.bool (!neg),.slice A n c] 139
  rw [World.size_alloc] at hB2
  have HG2:=Ac (Ae (Af w (.cells #[.bool neg,.slice A n c] 139) none) g2)
  have HB2:=Ac hB2
  clear g2 hB2
  go_enter Tryz.func176,Tryz.ntmps176
  go_wp2_with fail
  clear b0 b1 y0 y1 f0 f1
  obtain ⟨y0,y1,_⟩:=HB2.out.two
  try simp only [Exit.inBlock,Exit.then]
  refine bodyPost_ret (v:=.agg #[.bool (!neg),.slice A n c]) (by simp [results,Tryz.results176,go_sem, *]) rfl ⟨_,rfl,⟨_,by rw [HSN.out],?_⟩,HG2.out⟩
  rw [HNG.out]
  exact HD.out.more HG2.out
theorem Tw (w:World) (nv:Value) (z:Int) (hx:NZ w nv z) :
  Calls Tryz.prog 198 #[nv] w fun e w'=>∃ v,e=.returned v∧NZ w' v (z.natAbs:Int)∧w.grownBy w' none:=by
 obtain ⟨v,rfl,hd⟩:=hx
 obtain ⟨A,c,rfl,hl⟩:=hd.ctor
 have HD:=Ac hd
 have HNG:Hid (d16 (z.natAbs:Int)=d16 z):=Ac (by unfold d16;rw [Int.natAbs_natCast])
 have HSN:Hid (decide ((z.natAbs:Int)<0)=false):=Ac (decide_eq_false (by omega))
 clear hd hl
 generalize (d16 z).length=n at *
 generalize decide (z<0)=neg at *
 have hB:=(Blk.new w #[.bool neg,.slice A n c] 139).more (Af (w.alloc (.cells #[.bool neg,.slice A n c] 139)) (.cells #[.bool false,.slice none 0 0] 139) none)
 obtain ⟨b0,b1,_⟩:=hB.two
 have hB0:=Blk.new (w.alloc (.cells #[.bool neg,.slice A n c] 139)) #[.bool false,.slice none 0 0] 139
 rw [World.size_alloc] at hB0
 obtain ⟨y0,y1,f0,f1⟩:=hB0.two
 have g2:=Af (w.alloc (.cells #[.bool neg,.slice A n c] 139)) (.cells #[.bool false,.slice A n c] 139) none
 have hB2:=Blk.new (w.alloc (.cells #[.bool neg,.slice A n c] 139)) #[.bool false,.slice A n c] 139
 rw [World.size_alloc] at hB2
 have HG2:=Ac (Ae (Af w (.cells #[.bool neg,.slice A n c] 139) none) g2)
 have HB2:=Ac hB2
 clear g2 hB2 hB hB0
 go_enter Tryz.func198,Tryz.ntmps198
 go_wp2_with fail
 clear b0 b1 y0 y1 f0 f1
 obtain ⟨y0,y1,_⟩:=HB2.out.two
 try simp only [Exit.inBlock,Exit.then]
 refine bodyPost_ret (v:=.agg #[.bool false,.slice A n c]) (by simp [results,Tryz.results198,go_sem, *]) rfl ⟨_,rfl,⟨_,by rw [HSN.out],?_⟩,HG2.out⟩
 rw [HNG.out]
 exact HD.out.more HG2.out
set_option maxRecDepth 100000 in
theorem Rk (w:World) (v1 v2:Value) (x y:Int) (hx:NZ w v1 x) (hy:NZ w v2 y) (lx:(d16 x).length≤1099511627776) (ly:(d16 y).length≤1099511627776) :
    Calls Tryz.prog 249 #[v1,v2] w fun e w'=>∃ nv,e=.returned nv∧NZ w' nv (x-y)∧w.grownBy w' none:=by
  obtain ⟨u1,rfl,hx⟩:=hx
  obtain ⟨u2,rfl,hy⟩:=hy
  obtain ⟨A1,c1,rfl,_⟩:=hx.ctor
  obtain ⟨A2,c2,rfl,_⟩:=hy.ctor
  have HX:=Ac (show NZ w (.agg #[.bool (decide (x<0)),.slice A1 (d16 x).length c1]) x from ⟨_,rfl,hx⟩)
  have HY:=Ac (show NZ w (.agg #[.bool (decide (y<0)),.slice A2 (d16 y).length c2]) y from ⟨_,rfl,hy⟩)
  have HLX:=Ac lx
  have HLY:Hid ((d16 (-y)).length≤1099511627776):=Ac (by unfold d16 at *;rw [Int.natAbs_neg];exact ly)
  clear hx hy lx ly
  generalize hn1:(d16 x).length=n1 at *
  have HN1:=Ac hn1
  clear hn1
  generalize (d16 y).length=n2 at *
  generalize decide (x<0)=s1 at *
  generalize decide (y<0)=s2 at *
  have g1:=Af w (.cells #[.bool s1,.slice A1 n1 c1] 139) none
  have g2:=Af (w.alloc (.cells #[.bool s1,.slice A1 n1 c1] 139)) (.cells #[.bool s2,.slice A2 n2 c2] 139) none
  have g3:=Af ((w.alloc (.cells #[.bool s1,.slice A1 n1 c1] 139)).alloc (.cells #[.bool s2,.slice A2 n2 c2] 139)) (.cells #[.bool false,.slice none 0 0] 139) none
  have hB1:=(Blk.new w #[.bool s1,.slice A1 n1 c1] 139).more (Ae g2 g3)
  have hB2:=(Blk.new (w.alloc (.cells #[.bool s1,.slice A1 n1 c1] 139)) #[.bool s2,.slice A2 n2 c2] 139).more g3
  have hB3:=Blk.new ((w.alloc (.cells #[.bool s1,.slice A1 n1 c1] 139)).alloc (.cells #[.bool s2,.slice A2 n2 c2] 139)) #[.bool false,.slice none 0 0] 139
  have hsz:(((w.alloc (.cells #[.bool s1,.slice A1 n1 c1] 139)).alloc (.cells #[.bool s2,.slice A2 n2 c2] 139)).alloc (.cells #[.bool false,.slice none 0 0] 139)).heap.size=w.heap.size+3:=by simp
  rw [World.size_alloc] at hB2 hB3
  rw [World.size_alloc] at hB3
  have HGW:=Ac (Ae g1 (Ae g2 g3))
  have HX:=Ac (HX.out.more HGW.out)
  have HY:=Ac (HY.out.more HGW.out)
  have HB3:=Ac hB3
  have HSZ:=Ac hsz
  obtain ⟨x0,x1,_⟩:=hB1.two
  obtain ⟨y0,y1,_⟩:=hB2.two
  obtain ⟨z0,z1,f0,f1⟩:=hB3.two
  go_enter Tryz.func249,Tryz.ntmps249
  go_wp2_with fail
  generalize ((w.alloc (.cells #[.bool s1,.slice A1 n1 c1] 139)).alloc (.cells #[.bool s2,.slice A2 n2 c2] 139)).alloc (.cells #[.bool false,.slice none 0 0] 139)=wa at *
  generalize hs:w.heap.size=s at *
  have HS:=Ac hs
  have HKK:=Ac (fun W (h:wa.grownBy W none)=>(⟨Aj h x0 (by simp),Aj h x1 (by simp),Aj h y0 (by simp),Aj h y1 (by simp)⟩:W.cell? ⟨s,0,none⟩=some (.bool s1)∧W.cell? ⟨s,1,none⟩=some (.slice A1 n1 c1)∧W.cell? ⟨s+1,0,none⟩=some (.bool s2)∧W.cell? ⟨s+1,1,none⟩=some (.slice A2 n2 c2)))
  clear hB1 hB2 hB3 hs g1 g2 g3 z0 z1 f0 f1
  have ne1:s≠s+1+1:=by omega
  have ne2:s+1≠s+1+1:=by omega
  have ne3:s+1+1≠s:=by omega
  have ne4:s+1+1≠s+1:=by omega
  go_region_held3 (fun W=>W.cell? ⟨s,0,none⟩=some (.bool s1)∧W.cell? ⟨s,1,none⟩=some (.slice A1 n1 c1)∧W.cell? ⟨s+1,0,none⟩=some (.bool s2)∧W.cell? ⟨s+1,1,none⟩=some (.slice A2 n2 c2)) (first | go_keep | exact HKK.out _ (by (focus ((repeat (first | assumption | exact Al _ _ | exact Ai _ _ | exact Af _ _ _ | refine Ae ?_ (Af _ _ _) | refine Ae ?_ (Ai _ _) | refine Ae ?_ (by assumption)));done))))
   (first
   | (go_at_call 176;refine (Kp _ _ _ (HY.out.more (by (focus ((repeat (first | assumption | exact Al _ _ | exact Ai _ _ | exact Af _ _ _ | refine Ae ?_ (Af _ _ _) | refine Ae ?_ (Ai _ _) | refine Ae ?_ (by assumption)));done))))).mono ?_;rintro e w2 ⟨v2,rfl,hv2,hg2⟩)
   | (go_at_call 159;refine (Rl _ _ _ _ _ (HX.out.more (by (focus ((repeat (first | assumption | exact Al _ _ | exact Ai _ _ | exact Af _ _ _ | refine Ae ?_ (Af _ _ _) | refine Ae ?_ (Ai _ _) | refine Ae ?_ (by assumption)));done)))) (hv2.more (by (focus ((repeat (first | assumption | exact Al _ _ | exact Ai _ _ | exact Af _ _ _ | refine Ae ?_ (Af _ _ _) | refine Ae ?_ (Ai _ _) | refine Ae ?_ (by assumption)));done)))) (by rw [HN1.out];exact HLX.out) HLY.out).mono ?_;rintro e w3 ⟨v3,rfl,hv3,hg3⟩;obtain ⟨u3,rfl,hd3⟩:=hv3;obtain ⟨A3,c3,rfl,_⟩:=hd3.ctor;have HB4:=Ac (HB3.out.more (show wa.grownBy w3 none by (focus ((repeat (first | assumption | exact Al _ _ | exact Ai _ _ | exact Af _ _ _ | refine Ae ?_ (Af _ _ _) | refine Ae ?_ (Ai _ _) | refine Ae ?_ (by assumption)));done))));obtain ⟨z0,z1,f0,f1⟩:=HB4.out.two))
  all_goals
    go_wp2_with fail
    try simp only [Exit.inBlock,Exit.then]
    obtain ⟨w4,hw4,hB4,hG4⟩:∃ w4,w4=((w3.setCell ⟨s+1+1,0,none⟩ (.bool (decide (x + -y<0)))).setCell ⟨s+1+1,1,none⟩ (.slice A3 (d16 (x + -y)).length c3))∧Blk w4 (s+1+1) #[.bool (decide (x + -y<0)),.slice A3 (d16 (x + -y)).length c3]∧w3.grownBy w4 (some (s+1+1)):=⟨_,rfl,(HB4.out.set 0 _).set 1 _,Ae (Au _ _ _ _) (Au _ _ _ _)⟩
    rw [←hw4]
    clear z0 z1 f0 f1 hw4
    obtain ⟨z0,z1,_⟩:=hB4.two
    refine bodyPost_ret (v:=.agg #[.bool (decide (x + -y<0)),.slice A3 (d16 (x + -y)).length c3]) (by simp [results,Tryz.results249,go_sem,z0,z1]) rfl ⟨_,rfl,?_,?_⟩
    · rw [Int.sub_eq_add_neg]
      exact ⟨_,rfl,hd3.keep HB4.out (by simp) hG4⟩
    · exact Aw (Ae HGW.out (show wa.grownBy w3 none by (focus ((repeat (first | assumption | exact Al _ _ | exact Ai _ _ | exact Af _ _ _ | refine Ae ?_ (Af _ _ _) | refine Ae ?_ (Ai _ _) | refine Ae ?_ (by assumption)));done)))) hG4 (by have:=HS.out;omega)
set_option maxRecDepth 100000 in
theorem Rj (w:World) (v1 v2:Value) (x y:Int) (hx:NZ w v1 x) (hy:NZ w v2 y) (lx:(d16 x).length≤1099511627776) (ly:(d16 y).length≤1099511627776) :
  Calls Tryz.prog 197 #[v1,v2] w fun e w'=>e=.returned (.int .i64 (if x-y=0 then 0 else if x-y<0 then -1 else 1))∧w.grownBy w' none:=by
 obtain ⟨u1,rfl,hx⟩:=hx
 obtain ⟨u2,rfl,hy⟩:=hy
 obtain ⟨A1,c1,rfl,_⟩:=hx.ctor
 obtain ⟨A2,c2,rfl,_⟩:=hy.ctor
 have g1:=Af w (.cells #[.bool (decide (x<0)),.slice A1 (d16 x).length c1] 139) none
 have g2:=Af (w.alloc (.cells #[.bool (decide (x<0)),.slice A1 (d16 x).length c1] 139)) (.cells #[.bool (decide (y<0)),.slice A2 (d16 y).length c2] 139) none
 have hB1:=(Blk.new w #[.bool (decide (x<0)),.slice A1 (d16 x).length c1] 139).more g2
 have hB2:=Blk.new (w.alloc (.cells #[.bool (decide (x<0)),.slice A1 (d16 x).length c1] 139)) #[.bool (decide (y<0)),.slice A2 (d16 y).length c2] 139
 rw [World.size_alloc] at hB2
 obtain ⟨x0,x1,_⟩:=hB1.two
 obtain ⟨y0,y1,_⟩:=hB2.two
 have HGW:=Ac (Ae g1 g2)
 have HLE:=Ac (Rk ((w.alloc (.cells #[.bool (decide (x<0)),.slice A1 (d16 x).length c1] 139)).alloc (.cells #[.bool (decide (y<0)),.slice A2 (d16 y).length c2] 139)) _ _ x y (show NZ _ (.agg #[.bool (decide (x<0)),.slice A1 (d16 x).length c1]) x from ⟨_,rfl,hx.more HGW.out⟩) (show NZ _ (.agg #[.bool (decide (y<0)),.slice A2 (d16 y).length c2]) y from ⟨_,rfl,hy.more HGW.out⟩) lx ly)
 clear hx hy lx ly g1 g2 hB1 hB2
 generalize (d16 x).length=n1 at *
 generalize (d16 y).length=n2 at *
 generalize decide (x<0)=s1 at *
 generalize decide (y<0)=s2 at *
 generalize x-y=z at *
 obtain ⟨R,hR⟩:∃ R:Int,(if z=0 then (0:Int) else if z<0 then -1 else 1)=R:=⟨_,rfl⟩
 rw [hR]
 have HR:=Ac hR
 clear hR
 go_enter Tryz.func197,Tryz.ntmps197
 go_wp2_with fail
 refine HLE.out.mono ?_
 rintro e w1 ⟨nv,rfl,hz,hg1⟩
 clear x0 x1 y0 y1
 go_wp2_with fail
 have hms:=Mc w1 nv z hz
 rw [HR.out] at hms
 refine hms.mono ?_
 rintro e w2 ⟨rfl,hg2⟩
 clear hms
 go_wp2_with fail
 go_ret
 exact ⟨rfl,Ae HGW.out (Ae hg1 hg2)⟩
end
section
open Go.RowKit Go.Maps
open Rat
def OwnI (w:World) (g:Nat) (xs:List Nat):Prop:=∃ T,w.heap[g]? = some (.cells (i64s xs).toArray T (0,0))
theorem J4 (xs:List Nat):(i64s xs).length=xs.length:=by simp [i64s]
theorem Np (xs:List Nat) (i:Nat) (h:i<xs.length):(i64s xs)[i]? = some (.int .i64 ((xs[i]?.getD 0:Nat):Int)):=by
 simp [i64s,List.getElem?_eq_getElem h]
theorem OwnI.cell {w:World} {g:Nat} {xs:List Nat} (h:OwnI w g xs) (i:Nat) (hi:i<xs.length):w.cell? ⟨g,i,none⟩=some (.int .i64 ((xs[i]?.getD 0:Nat):Int)):=by
 obtain ⟨T,hh⟩:=h
 rw [Ay hh]
 simpa using Np xs i hi
theorem OwnI.free {w:World} {g:Nat} {xs:List Nat} (h:OwnI w g xs) (i:Nat):w.frozen? ⟨g,i,none⟩=false:=by
 obtain ⟨T,hh⟩:=h
 exact Bj hh i
theorem OwnI.set {w:World} {g:Nat} {xs:List Nat} (h:OwnI w g xs) (i n:Nat) (z:Int) (hz:z=(n:Int)):OwnI (w.setCell ⟨g,i,none⟩ (.int .i64 z)) g (xs.set i n):=by
 subst hz
 obtain ⟨T,hh⟩:=h
 exact ⟨T,by rw [C4 hh];simp [i64s,List.map_set]⟩
theorem OwnI.d16 {w:World} {g:Nat} {xs:List Nat} (h:OwnI w g xs) (hx:∀ x∈xs,x<65536) (hl:xs.length≤9223372036854775807):D16 w (.slice (some ⟨g,0,none⟩) xs.length xs.length) xs :=
 ⟨.inr ⟨g,0,xs.length,rfl,Nat.le_refl _,hl,fun i hi=>by rw [Nat.zero_add];exact h.cell i hi⟩,hx⟩
theorem OwnI.more {w w':World} {g:Nat} {xs:List Nat} (h:OwnI w g xs) (hg:w.grownBy w' none):OwnI w' g xs:=by
 obtain ⟨T,hh⟩:=h
 exact ⟨T,Do hg hh (by simp)⟩
theorem Sj {P:Program} (t e:TypeId) (ht:P.underlying t=some (.slice e)) (hinfo:(P.info? e).map (fun i=>(i.zero,i.size,i.bytes))=some (some (.int .i64 0),1,8))
  (n:Nat) (hn:n≤8796093022208) (N:Int) (hN:N=(n:Int)) (W:World) :
  (Instr.makeSlice t (.int .i64 N) (.int .i64 N)).run P W=.ok (.slice (some ⟨W.heap.size,0,none⟩) n n) (W.alloc (.cells (i64s (List.replicate n 0)).toArray e)):=by
 subst hN
 rw [run_make_row' t e (.int .i64 0) 8 ht hinfo rfl .i64 .i64 n (by omega) (by omega) W]
 congr 2
 congr 1
 apply Array.ext
 ·simp [madeCells,i64s]
 ·intro i h1 h2
  simp [madeCells,i64s,Nat.mod_one]
set_option maxRecDepth 100000 in
theorem Eg (w:World) (v1 v2:Value) (x y:Int) (hx:NZ w v1 x) (hy:NZ w v2 y) (lx:(d16 x).length≤1099511627776) (ly:(d16 y).length≤1099511627776) :
  Calls Tryz.prog 146 #[v1,v2] w fun e w'=>∃ nv,e=.returned nv∧NZ w' nv (x*y)∧w.grownBy w' none:=by
 obtain ⟨u1,rfl,hx⟩:=hx
 obtain ⟨u2,rfl,hy⟩:=hy
 obtain ⟨A1,c1,rfl,_⟩:=hx.ctor
 obtain ⟨A2,c2,rfl,_⟩:=hy.ctor
 have HVX:Hid (val 65536 (d16 x)=x.natAbs):=Ac (Ei x)
 have HVY:Hid (val 65536 (d16 y)=y.natAbs):=Ac (Ei y)
 generalize d16 x=xs at *
 generalize d16 y=ys at *
 generalize hd1:decide (x<0)=n1 at *
 generalize hd2:decide (y<0)=n2 at *
 have HN1:=Ac hd1
 have HN2:=Ac hd2
 clear hd1 hd2
 have gw:=Ae (Ae (Af w (.cells #[.bool n1,.slice A1 xs.length c1] 139) none) (Af _ (.cells #[.bool n2,.slice A2 ys.length c2] 139) none)) (Af _ (.cells #[.bool false,.slice none 0 0] 139) none)
 have hB1:=(Blk.new w #[.bool n1,.slice A1 xs.length c1] 139).more (Ae (Af _ (.cells #[.bool n2,.slice A2 ys.length c2] 139) none) (Af _ (.cells #[.bool false,.slice none 0 0] 139) none))
 have hB2:=(Blk.new (w.alloc (.cells #[.bool n1,.slice A1 xs.length c1] 139)) #[.bool n2,.slice A2 ys.length c2] 139).more (Af _ (.cells #[.bool false,.slice none 0 0] 139) none)
 have hB3:=Blk.new ((w.alloc (.cells #[.bool n1,.slice A1 xs.length c1] 139)).alloc (.cells #[.bool n2,.slice A2 ys.length c2] 139)) #[.bool false,.slice none 0 0] 139
 rw [World.size_alloc] at hB2 hB3
 rw [World.size_alloc] at hB3
 have hsz:(((w.alloc (.cells #[.bool n1,.slice A1 xs.length c1] 139)).alloc (.cells #[.bool n2,.slice A2 ys.length c2] 139)).alloc (.cells #[.bool false,.slice none 0 0] 139)).heap.size=w.heap.size+1+1+1:=by simp
 have HX:=Ac (hx.more gw)
 have HY:=Ac (hy.more gw)
 have HB1:=Ac hB1
 have HB2:=Ac hB2
 have HB3:=Ac hB3
 have HSZ:=Ac hsz
 have HGW:=Ac gw
 clear hx hy hB1 hB2 hB3 hsz gw
 have hmk:=Sj (P:=Tryz.prog) 30 3 Tryz.underlying30 Cm (xs.length+ys.length) (by omega) ((xs.length:Int)+(ys.length:Int)) (by omega)
 go_enter Tryz.func146,Tryz.ntmps146
 go_wp2_with fail
 generalize ((w.alloc (.cells #[.bool n1,.slice A1 xs.length c1] 139)).alloc (.cells #[.bool n2,.slice A2 ys.length c2] 139)).alloc (.cells #[.bool false,.slice none 0 0] 139)=wa at *
 generalize hs:w.heap.size=s at *
 have HS:=Ac hs
 clear hs
 obtain ⟨x0,x1,_⟩:=HB1.out.two
 obtain ⟨y0,y1,_⟩:=HB2.out.two
 have hws:IntKind.i64.wrap ((xs.length:Int)+(ys.length:Int))=(xs.length:Int)+(ys.length:Int):=IntWalk.i64_in _ (by omega)
 go_wp2_with fail
 have g1:=Af wa (.cells (i64s (List.replicate (xs.length+ys.length) 0)).toArray 3) none
 have ho0:OwnI (wa.alloc (.cells (i64s (List.replicate (xs.length+ys.length) 0)).toArray 3)) (s+1+1+1) (List.replicate (xs.length+ys.length) 0):=⟨3,Gu _ HSZ.out.symm⟩
 clear hmk hws
 go_loopw [6] (fun iv wr=>∃ (k:Nat) (os:List Nat),k≤xs.length∧iv=.int .i64 k∧wa.grownBy wr none∧Hid (OwnI wr (s+1+1+1) os)∧Hid (TimOut os xs ys k)) (fun iv _=>(xs.length-intOf iv).toNat)
 case atStart=>exact ⟨0,_,by omega,rfl,g1,Ac ho0,Ac (TimOut.start xs ys)⟩
 case round =>
  clear g1 ho0
  obtain ⟨k,os,hk,rfl,hg,ho,hv⟩:=hrel
  have x0:=Aj hg x0 (by simp)
  have x1:=Aj hg x1 (by simp)
  have y0:=Aj hg y0 (by simp)
  have y1:=Aj hg y1 (by simp)
  by_cases hlt:k<xs.length
  ·obtain ⟨b1,o1,rfl,u1,lx1⟩:=(HX.out.more hg).at hlt
   have hxk:xs[k]?.getD 0=xs.getD k 0:=(List.getD_eq_getElem?_getD ..).symm
   generalize xs.getD k 0=x' at *
   have HXK:=Ac hxk
   have HLT:=Ac hlt
   clear hxk
   go_wp2_with fail
   obtain ⟨wo,rfl⟩:∃ wo:World,wo=wr:=⟨_,rfl⟩
   go_loopw [7,8] (fun cv jv wr=>∃ (j cy:Nat) (os:List Nat),j≤ys.length∧jv=.int .i64 j∧cv=.int .i64 cy∧cy<65536∧wa.grownBy wr none∧Hid (OwnI wr (s+1+1+1) os)∧Hid (TimIn os xs ys k j cy)) (fun _ jv _=>(ys.length-intOf jv).toNat)
   case atStart=>exact ⟨0,0,os,by omega,rfl,rfl,by omega,hg,ho,Ac hv.out.enter⟩
   case round =>
    clear ho hv hg x0 x1 y0 y1 u1
    obtain ⟨j,cy,os,hj,rfl,rfl,hcy,hg,ho,hv⟩:=hrel
    obtain ⟨x0,x1,_⟩:=(HB1.out.more hg).two
    obtain ⟨y0,y1,_⟩:=(HB2.out.more hg).two
    by_cases hjt:j<ys.length
    ·obtain ⟨b2,o2,rfl,u2,ly1⟩:=(HY.out.more hg).at hjt
     obtain ⟨b1',o1',e,u1,_⟩:=(HX.out.more hg).at hlt
     injection e with e;injection e with e1 e2
     subst e1 e2
     have hyk:ys[j]?.getD 0=ys.getD j 0:=(List.getD_eq_getElem?_getD ..).symm
     have hx2:xs.getD k 0=x':=by rw [List.getD_eq_getElem?_getD];exact HXK.out
     rw [hx2] at u1
     generalize ys.getD j 0=y' at *
     have u3:=ho.out.cell (k+j) (by rw [hv.out.1];omega)
     have f3:=ho.out.free (k+j)
     have lu:=Eq (B:=65536) (by omega) hv.out.2.1 (k+j)
     rw [List.getD_eq_getElem?_getD] at lu
     have hsm:=Xs lx1 ly1 lu hcy
     generalize huk:os[k+j]?.getD 0=u at *
     obtain ⟨t,ht⟩:∃ t:Nat,t=u+x'*y'+cy:=⟨_,rfl⟩
     have HT:=Ac ht
     have p1:(x':Int)*(y':Int)=((x'*y':Nat):Int):=(Int.natCast_mul _ _).symm
     have hpl:x'*y'≤4294967295:=by omega
     rw [←ht] at hsm
     have ht2:(u:Int)+((x'*y':Nat):Int)+(cy:Int)=(t:Int):=by omega
     generalize hpp:x'*y'=pp at *
     have HPP:=Ac hpp
     clear hpp
     have q0:IntKind.i64.wrap ((k:Int)+(j:Int))=(k:Int)+(j:Int):=IntWalk.i64_in _ (by omega)
     have q1:((k:Int)+(j:Int)).toNat=k+j:=by omega
     have q2:(0:Int)≤(k:Int)+(j:Int):=by omega
     have q3:(k:Int)+(j:Int)<(xs.length:Int)+(ys.length:Int):=by omega
     have q4:IntKind.i64.wrap (pp:Int)=(pp:Int):=IntWalk.i64_in _ (by omega)
     have q5:IntKind.i64.wrap ((u:Int)+(pp:Int))=(u:Int)+(pp:Int):=IntWalk.i64_in _ (by omega)
     have q6:IntKind.i64.wrap (t:Int)=(t:Int):=IntWalk.i64_in _ (by omega)
     have r1:(t:Int).tmod 65536=(t:Int) % 65536:=Int.tmod_eq_emod_of_nonneg (by omega)
     have r2:(t:Int).tdiv 65536=(t:Int)/65536:=Int.tdiv_eq_ediv_of_nonneg (by omega)
     have r3:IntKind.i64.wrap ((t:Int) % 65536)=(t:Int) % 65536:=IntWalk.i64_in _ (by omega)
     have r4:IntKind.i64.wrap ((t:Int)/65536)=(t:Int)/65536:=IntWalk.i64_in _ (by omega)
     have HUK:=Ac huk
     have HYK:=Ac hyk
     have HG:=Ac hg
     clear huk hyk ht hg hx2 hpl
     go_wp2_with fail
     go_quiet (fail)
     go_wp2_with fail
     have ht:=HT.out
     have hst:=hv.out.step (j:=j) (by omega) hjt
     rw [HUK.out,HXK.out,HYK.out,HPP.out,←ht] at hst
     exact ⟨⟨j+1,t/65536,_,by omega,by go_num,by go_num,by omega,Aw (Ae HG.out (Az _ _ _)) (Au _ _ _ _) (by have:=HSZ.out;omega),Ac ((ho.out.more (Az _ _ _)).set (k+j) (t % 65536) _ (by omega)),Ac hst⟩,by simp [intOf];omega⟩
    ·obtain rfl:j=ys.length:=by omega
     have u3:=ho.out.cell (k+ys.length) (by rw [hv.out.1];omega)
     have f3:=ho.out.free (k+ys.length)
     rw [hv.out.2.2.1 _ (Nat.le_refl _)] at u3
     have q0:IntKind.i64.wrap ((k:Int)+(ys.length:Int))=(k:Int)+(ys.length:Int):=IntWalk.i64_in _ (by omega)
     have q1:((k:Int)+(ys.length:Int)).toNat=k+ys.length:=by omega
     have q2:(0:Int)≤(k:Int)+(ys.length:Int):=by omega
     have q3:(k:Int)+(ys.length:Int)<(xs.length:Int)+(ys.length:Int):=by omega
     have q4:IntKind.i64.wrap (cy:Int)=(cy:Int):=IntWalk.i64_in _ (by omega)
     have HG:=Ac hg
     have HLV:=Ac (hv.out.leave hlt hcy)
     clear hg hcy
     go_wp2_with fail
     go_still_tail 17,(by kernel_rfl)
     change wpList _ _ _ _ _ wr.drew
     go_wp2_with fail
     exact ⟨⟨k+1,_,by omega,by go_num,Aw (Ae HG.out (Ai _ _)) (Au _ _ _ _) (by have:=HSZ.out;omega),Ac ((ho.out.more (Ai _ _)).set (k+ys.length) cy _ rfl),Ac HLV.out⟩,by simp [intOf];omega⟩
  ·obtain rfl:k=xs.length:=by omega
   have hval:Hid (dig 65536 (val 65536 os)=d16 (x*y)):=Ac (by rw [hv.out.end,HVX.out,HVY.out,←Int.natAbs_mul];rfl)
   have hl:os.length=xs.length+ys.length:=hv.out.1
   have hD:=ho.out.d16 hv.out.2.1 (by omega)
   rw [hl] at hD
   have HD:=Ac hD
   have HG:=Ac hg
   clear hD hv ho hg hl
   go_wp2_with fail
   clear x0 x1 y0 y1
   refine (Fu wr _ os HD.out).mono ?_
   rintro e w1 ⟨v5,rfl,hd5,hb5,rfl⟩
   rw [hval.out] at hd5
   obtain ⟨A5,c5,rfl,hl5⟩:=hd5.ctor
   obtain ⟨x0,_⟩:=(HB1.out.more HG.out).two
   obtain ⟨y0,_⟩:=(HB2.out.more HG.out).two
   obtain ⟨d0,d1,f0,f1⟩:=(HB3.out.more HG.out).two
   have HFAR:Hid ((Value.slice A5 (d16 (x*y)).length c5).ownBlock≠some (s+1+1)):=Ac (by rw [hb5];simp [Value.ownBlock])
   have HD5:=Ac hd5
   have HG1:=Ac (Ae HGW.out HG.out)
   clear hd5 hb5
   have hz0:(d16 (x*y)).length=0↔x*y=0:=by rw [List.length_eq_zero_iff];exact L0
   generalize (d16 (x*y)).length=n5 at *
   have HZ0:=Ac hz0
   clear hz0
   cases n1 with
   | false =>
    have h1:=of_decide_eq_false HN1.out
    cases n2 with
    | false =>
     have h2:=of_decide_eq_false HN2.out
     have HSGN:Hid (decide (x*y<0)=false):=Ac (decide_eq_false (by have:=Int.mul_nonneg (show 0≤x by omega) (show 0≤y by omega);omega))
     clear h1 h2
     go_wp2
     try simp only [Exit.inBlock,Exit.then]
     have hg6:wr.grownBy ((wr.setCell ⟨s+1+1,0,none⟩ (.bool false)).setCell ⟨s+1+1,1,none⟩ (.slice A5 n5 c5)) (some (s+1+1)):=Ae (Au _ _ _ _) (Au _ _ _ _)
     refine bodyPost_ret (v:=.agg #[.bool false,.slice A5 n5 c5]) (by simp [results,Tryz.results146,go_sem, *]) rfl ⟨_,rfl,⟨.slice A5 n5 c5,?_,?_⟩,Aw HG1.out hg6 (by have:=HS.out;omega)⟩
     ·rw [HSGN.out]
     ·exact HD5.out.apart hg6 HFAR.out
    | true =>
     have h2:=of_decide_eq_true HN2.out
     have h3:=Int.mul_nonpos_of_nonneg_of_nonpos (show 0≤x by omega) (show y≤0 by omega)
     have HSGN:Hid (decide (x*y<0)=decide (0<n5)):=Ac (by
      by_cases hz:n5=0
      ·have:=HZ0.out.1 hz;rw [decide_eq_false (by omega),decide_eq_false (by omega)]
      ·have h4:x*y≠0:=fun e=>hz (HZ0.out.2 e)
       rw [decide_eq_true (by omega),decide_eq_true (by omega)])
     clear h1 h2 h3
     go_wp2
     try simp only [Exit.inBlock,Exit.then]
     have hg6:wr.grownBy ((wr.setCell ⟨s+1+1,0,none⟩ (.bool (decide (0<n5)))).setCell ⟨s+1+1,1,none⟩ (.slice A5 n5 c5)) (some (s+1+1)):=Ae (Au _ _ _ _) (Au _ _ _ _)
     refine bodyPost_ret (v:=.agg #[.bool (decide (0<n5)),.slice A5 n5 c5]) (by simp [results,Tryz.results146,go_sem, *]) rfl ⟨_,rfl,⟨.slice A5 n5 c5,?_,?_⟩,Aw HG1.out hg6 (by have:=HS.out;omega)⟩
     ·rw [HSGN.out]
     ·exact HD5.out.apart hg6 HFAR.out
   | true =>
    have h1:=of_decide_eq_true HN1.out
    cases n2 with
    | false =>
     have h2:=of_decide_eq_false HN2.out
     have h3:=Int.mul_nonpos_of_nonpos_of_nonneg (show x≤0 by omega) (show 0≤y by omega)
     have HSGN:Hid (decide (x*y<0)=decide (0<n5)):=Ac (by
      by_cases hz:n5=0
      ·have:=HZ0.out.1 hz;rw [decide_eq_false (by omega),decide_eq_false (by omega)]
      ·have h4:x*y≠0:=fun e=>hz (HZ0.out.2 e)
       rw [decide_eq_true (by omega),decide_eq_true (by omega)])
     clear h1 h2 h3
     go_wp2
     try simp only [Exit.inBlock,Exit.then]
     have hg6:wr.grownBy ((wr.setCell ⟨s+1+1,0,none⟩ (.bool (decide (0<n5)))).setCell ⟨s+1+1,1,none⟩ (.slice A5 n5 c5)) (some (s+1+1)):=Ae (Au _ _ _ _) (Au _ _ _ _)
     refine bodyPost_ret (v:=.agg #[.bool (decide (0<n5)),.slice A5 n5 c5]) (by simp [results,Tryz.results146,go_sem, *]) rfl ⟨_,rfl,⟨.slice A5 n5 c5,?_,?_⟩,Aw HG1.out hg6 (by have:=HS.out;omega)⟩
     ·rw [HSGN.out]
     ·exact HD5.out.apart hg6 HFAR.out
    | true =>
     have h2:=of_decide_eq_true HN2.out
     have HSGN:Hid (decide (x*y<0)=false):=Ac (decide_eq_false (by have:=Int.mul_nonneg_of_nonpos_of_nonpos (show x≤0 by omega) (show y≤0 by omega);omega))
     clear h1 h2
     go_wp2
     try simp only [Exit.inBlock,Exit.then]
     have hg6:wr.grownBy ((wr.setCell ⟨s+1+1,0,none⟩ (.bool false)).setCell ⟨s+1+1,1,none⟩ (.slice A5 n5 c5)) (some (s+1+1)):=Ae (Au _ _ _ _) (Au _ _ _ _)
     refine bodyPost_ret (v:=.agg #[.bool false,.slice A5 n5 c5]) (by simp [results,Tryz.results146,go_sem, *]) rfl ⟨_,rfl,⟨.slice A5 n5 c5,?_,?_⟩,Aw HG1.out hg6 (by have:=HS.out;omega)⟩
     ·rw [HSGN.out]
     ·exact HD5.out.apart hg6 HFAR.out
end
end Go.Proofs.YtckbiimikeiejaaGreatDoor
