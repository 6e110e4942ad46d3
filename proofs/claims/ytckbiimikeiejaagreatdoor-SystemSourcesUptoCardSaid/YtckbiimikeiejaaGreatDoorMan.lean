/- RefN. -/
import Derived.Test.YtckbiimikeiejaaGreatDoorMam
import Derived.Test.YtckbiimikeiejaaGreatDoorMai
set_option linter.unusedVariables false
set_option linter.unusedSimpArgs false
set_option maxHeartbeats 40000000
namespace Go.Proofs.YtckbiimikeiejaaGreatDoor
section
open Go.RowKit Go.Maps
open Rat
theorem Nums.at {w:World} {A:Option Addr} {n c:Nat} {xs:List Nat} (h:Nums w (.slice A n c) xs) {i:Nat} (hi:i<xs.length) :
  ∃ b o,A=some ⟨b,o,none⟩∧w.cell? ⟨b,o+i,none⟩=some (.int .u32 ((xs.getD i 0:Nat):Int)):=by
 obtain ⟨A',c',e,_,_,hA⟩:=h.read
 injection e with e1 e2 e3
 subst e1
 obtain ⟨b,o,rfl,hc⟩:=hA (by omega)
 exact ⟨b,o,rfl,by rw [hc i hi,List.getD_eq_getElem?_getD]⟩
theorem Hh (w:World) (neg:Bool) (v1 v2:Value) (xs:List Nat) (hx:Nums w v1 xs) (hy:Nums w v2 xs) :
  Calls Tryz.prog 78 #[.agg #[.bool neg,v1],.agg #[.bool neg,v2]] w fun e w'=>e=.returned (.bool true)∧w.grownBy w' none:=by
 obtain ⟨A1,c1,rfl,_⟩:=hx.form
 obtain ⟨A2,c2,rfl,hl,hl2⟩:=hy.form
 have gw:=Ae (Af w (.cells #[.bool neg,.slice A1 xs.length c1] 49) none) (Af _ (.cells #[.bool neg,.slice A2 xs.length c2] 49) none)
 have hB1:=(Blk.new w #[.bool neg,.slice A1 xs.length c1] 49).more (Af _ (.cells #[.bool neg,.slice A2 xs.length c2] 49) none)
 have hB2:=Blk.new (w.alloc (.cells #[.bool neg,.slice A1 xs.length c1] 49)) #[.bool neg,.slice A2 xs.length c2] 49
 rw [World.size_alloc] at hB2
 have HX:=Ac (hx.more gw)
 have HY:=Ac (hy.more gw)
 obtain ⟨x0,x1,_⟩:=hB1.two
 obtain ⟨y0,y1,_⟩:=hB2.two
 have HGW:=Ac gw
 have t0:(neg != neg)=false:=by simp
 have t1:((xs.length:Int) != (xs.length:Int))=false:=by simp
 clear hx hy hB1 hB2 gw
 go_enter Tryz.func78,Tryz.ntmps78
 go_wp2_with fail
 generalize (w.alloc (.cells #[.bool neg,.slice A1 xs.length c1] 49)).alloc (.cells #[.bool neg,.slice A2 xs.length c2] 49)=wa at *
 generalize hs:w.heap.size=s at *
 clear hs
 go_loopw [5] (fun iv wr=>∃ k:Nat,k≤xs.length∧iv=.int .i64 k∧wa.grownBy wr none) (fun iv _=>(xs.length-intOf iv).toNat)
 case atStart=>exact ⟨0,by omega,rfl,Al _ _⟩
 case round =>
  obtain ⟨k,hk,rfl,hg⟩:=hrel
  have x0:=Aj hg x0 (by simp)
  have x1:=Aj hg x1 (by simp)
  have y0:=Aj hg y0 (by simp)
  have y1:=Aj hg y1 (by simp)
  by_cases hlt:k<xs.length
  ·obtain ⟨b1,o1,rfl,u1⟩:=(HX.out.more hg).at hlt
   obtain ⟨b2,o2,rfl,u2⟩:=(HY.out.more hg).at hlt
   generalize xs.getD k 0=x at *
   have t2:((x:Int) != (x:Int))=false:=by simp
   have HG:=Ac hg
   clear hg
   go_wp2_with fail
   go_quiet (fail)
   go_wp2_with fail
   exact ⟨⟨k+1,by omega,by go_num,Ae HG.out (Az _ _ _)⟩,by simp [intOf];omega⟩
  ·obtain rfl:k=xs.length:=by omega
   go_wp2_with fail
   go_ret
   exact ⟨rfl,Ae HGW.out hg⟩
theorem A2r (w:World) (v1 v2:Value) (l:List Int) (hx:IntRow w v1 l) (hy:IntRow w v2 l) :
  Calls Tryz.prog 29 #[v1,v2] w fun e w'=>e=.returned (.bool true)∧w.grownBy w' none:=by
 obtain ⟨A1,c1,rfl,_⟩:=hx.ctor
 obtain ⟨A2,c2,rfl,hl,hl2⟩:=hy.ctor
 have t1:((l.length:Int) != (l.length:Int))=false:=by simp
 go_enter Tryz.func29,Tryz.ntmps29
 go_wp2_with fail
 go_loopw [5] (fun iv wr=>∃ k:Nat,k≤l.length∧iv=.int .i64 k∧w.grownBy wr none) (fun iv _=>(l.length-intOf iv).toNat)
 case atStart=>exact ⟨0,by omega,rfl,Al _ _⟩
 case round =>
  obtain ⟨k,hk,rfl,hg⟩:=hrel
  by_cases hlt:k<l.length
  ·obtain ⟨b1,o1,rfl,_,u1⟩:=(hx.more hg).at hlt
   obtain ⟨b2,o2,rfl,_,u2⟩:=(hy.more hg).at hlt
   generalize l.getD k 0=x at *
   have t2:(x != x)=false:=by simp
   have HG:=Ac hg
   clear hg
   go_wp2_with fail
   go_quiet (fail)
   go_wp2_with fail
   exact ⟨⟨k+1,by omega,by go_num,Ae HG.out (Az _ _ _)⟩,by simp [intOf];omega⟩
  ·obtain rfl:k=l.length:=by omega
   go_wp2_with fail
   go_ret
   exact ⟨rfl,hg⟩
theorem ZRow.at {w:World} {A:Option Addr} {n c:Nat} {L:List Int} (h:ZRow w (.slice A n c) L) {i:Nat} (hi:i<L.length) :
  ∃ b A' n' c',A=some ⟨b,0,none⟩∧w.cell? ⟨b,i*2,none⟩=some (.bool (decide (L.getD i 0<0)))∧w.cell? ⟨b,i*2+1,none⟩=some (.slice A' n' c')∧Nums w (.slice A' n' c') (digs (L.getD i 0)):=by
 obtain ⟨A0,c0,he,h4⟩:=h
 injection he with e1 e2 e3
 subst e1
 obtain ⟨b,rfl,hc⟩:=h4 (by omega)
 obtain ⟨A',n',c',u0,u1,hn⟩:=hc i hi
 have e:L.getD i 0=L[i]:=by rw [List.getD_eq_getElem?_getD,List.getElem?_eq_getElem hi];rfl
 exact ⟨b,A',n',c',rfl,by rw [e];exact u0,u1,by rw [e];exact hn⟩
theorem ZRow.more {w w':World} {v:Value} {L:List Int} (h:ZRow w v L) (hg:w.grownBy w' none):ZRow w' v L:=by
 obtain ⟨A0,c0,rfl,h4⟩:=h
 refine ⟨A0,c0,rfl,fun hp=>?_⟩
 obtain ⟨b,rfl,hc⟩:=h4 hp
 refine ⟨b,rfl,fun i hi=>?_⟩
 obtain ⟨A',n',c',u0,u1,hn⟩:=hc i hi
 exact ⟨A',n',c',Aj hg u0 (by simp),Aj hg u1 (by simp),hn.more hg⟩
end
end Go.Proofs.YtckbiimikeiejaaGreatDoor
