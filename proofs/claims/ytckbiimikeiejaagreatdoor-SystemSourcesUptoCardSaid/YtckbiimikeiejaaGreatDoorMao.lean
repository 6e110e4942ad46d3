/- RefA RefC RefD RefF RefG RefH RefI. -/
import Derived.Test.YtckbiimikeiejaaGreatDoorMaj
import Derived.Test.YtckbiimikeiejaaGreatDoorMal
import Derived.Test.YtckbiimikeiejaaGreatDoorMaa
import Derived.Test.YtckbiimikeiejaaGreatDoorMam
set_option linter.unusedVariables false
set_option linter.unusedSimpArgs false
set_option maxHeartbeats 40000000
namespace Go.Proofs.YtckbiimikeiejaaGreatDoor
section
open Go.RowKit
open Rat
end
section
open Go.RowKit
open Rat
def D16 (w:World) (v:Value) (ds:List Nat):Prop :=
 ((v=.slice none 0 0∧ds=[])∨∃ b o c,v=.slice (some ⟨b,o,none⟩) ds.length c∧ds.length≤c∧c≤9223372036854775807∧∀ i,i<ds.length→w.cell? ⟨b,o+i,none⟩=some (.int .i64 ((ds[i]?.getD 0:Nat):Int)))∧∀ x∈ds,x<65536
theorem D16.nil (w:World):D16 w (.slice none 0 0) []:=⟨.inl ⟨rfl,rfl⟩,by simp⟩
theorem D16.more {w w':World} {v:Value} {ds:List Nat} (h:D16 w v ds) (hg:w.grownBy w' none):D16 w' v ds:=by
 refine ⟨?_,h.2⟩
 rcases h.1 with h1 | ⟨b,o,c,rfl,h1,h2,h3⟩
 ·exact .inl h1
 ·exact .inr ⟨b,o,c,rfl,h1,h2,fun i hi=>Aj hg (h3 i hi) (by simp)⟩
theorem D16.apart {w w':World} {v:Value} {ds:List Nat} {r:Nat} (h:D16 w v ds) (hg:w.grownBy w' (some r)) (hne:v.ownBlock≠some r):D16 w' v ds:=by
 refine ⟨?_,h.2⟩
 rcases h.1 with h1 | ⟨b,o,c,rfl,h1,h2,h3⟩
 ·exact .inl h1
 ·have hb:b≠r:=fun e=>hne (by rw [e];rfl)
  exact .inr ⟨b,o,c,rfl,h1,h2,fun i hi=>Aj hg (h3 i hi) (by simpa using hb)⟩
theorem D16.ctor {w:World} {v:Value} {ds:List Nat} (h:D16 w v ds):∃ A c,v=.slice A ds.length c∧ds.length≤9223372036854775807:=by
 rcases h.1 with ⟨rfl,rfl⟩ | ⟨b,o,c,rfl,h1,h2,_⟩
 ·exact ⟨_,_,rfl,by simp⟩
 ·exact ⟨_,_,rfl,by omega⟩
theorem D16.take {w:World} {b o c:Nat} {ds:List Nat} (h:D16 w (.slice (some ⟨b,o,none⟩) ds.length c) ds) {k:Nat} (hk:k≤ds.length):D16 w (.slice (some ⟨b,o,none⟩) k c) (ds.take k):=by
 rcases h.1 with ⟨e,_⟩ | ⟨b',o',c',e,h1,h2,h3⟩
 ·injection e with e;simp at e
 ·injection e with e e1 e2
  injection e with e;injection e with e3 e4
  subst e3 e4 e2
  have hl:(ds.take k).length=k:=by simp [hk]
  refine ⟨.inr ⟨b,o,c,by rw [hl],by omega,h2,fun i hi=>?_⟩,fun x hx=>h.2 x (List.mem_of_mem_take hx)⟩
  rw [hl] at hi
  rw [h3 i (by omega),List.getElem?_take,if_pos hi]
theorem Fu (w:World) (v:Value) (xs:List Nat) (hx:D16 w v xs) :
  Calls Tryz.prog 161 #[v] w fun e w'=>∃ v',e=.returned v'∧D16 w v' (dig 65536 (val 65536 xs))∧v'.ownBlock=v.ownBlock∧w=w':=by
 rw [←Tm 65536 (by omega) xs hx.2]
 have hx':=hx
 rcases hx.1 with ⟨rfl,rfl⟩ | ⟨b,o,c,rfl,h1,h2,hc⟩
 ·refine Calls.mono (R:=fun e w'=>e=.returned (.slice none 0 0)∧w'=w) ?_ (fun e w' ⟨he,hw⟩=>⟨_,he,D16.nil w,rfl,hw.symm⟩)
  go_enter Tryz.func161,Tryz.ntmps161
  go_wp2
  go_loop [3] (fun n=>n=.int .i64 0) (fun n=>0)
  case atStart=>rfl
  case round =>
   obtain rfl:=hrel
   go_wp2
   go_ret
   exact ⟨rfl,rfl⟩
 ·refine Calls.mono (R:=fun e w'=>e=.returned (.slice (some ⟨b,o,none⟩) (Cn xs xs.length) c)∧w'=w) ?_ (fun e w' ⟨he,hw⟩=>⟨_,he,hx'.take (Kn _ _),rfl,hw.symm⟩)
  clear hx hx'
  go_enter Tryz.func161,Tryz.ntmps161
  go_wp2
  go_loop [3] (fun n=>∃ k:Nat,k≤xs.length∧n=.int .i64 k∧Hid (Cn xs k=Cn xs xs.length)) (fun n=>(intOf n).toNat)
  case atStart=>exact ⟨_,Nat.le_refl _,rfl,rfl⟩
  case round =>
   obtain ⟨k,hk,rfl,ht⟩:=hrel
   have hpos:0<k→w.cell? ⟨b,o+(k-1),none⟩=some (.int .i64 ((xs[k-1]?.getD 0:Nat):Int)):=fun _=>hc (k-1) (by omega)
   clear hc
   go_wp2
   ·exact ⟨⟨k-1,by omega,by go_num,(Vx (by assumption) (by assumption)).trans ht⟩,by simp [intOf];omega⟩
   ·go_ret;exact ⟨Jq ((Pt (by assumption) (by assumption)).symm.trans ht),rfl⟩
   ·go_ret;exact ⟨Jq ((Ps (by assumption)).symm.trans ht),rfl⟩
def d16 (z:Int):List Nat:=dig 65536 z.natAbs
theorem L0 {z:Int}:d16 z=[]↔z=0:=by unfold d16;rw [Ig _ _ (by omega)];omega
def NZ (w:World) (nv:Value) (z:Int):Prop:=∃ v,nv=.agg #[.bool (decide (z<0)),v]∧D16 w v (d16 z)
theorem NZ.more {w w':World} {v:Value} {z:Int} (h:NZ w v z) (hg:w.grownBy w' none):NZ w' v z:=by
 obtain ⟨u,rfl,h⟩:=h;exact ⟨u,rfl,h.more hg⟩
theorem Mc (w:World) (nv:Value) (z:Int) (hx:NZ w nv z) :
  Calls Tryz.prog 82 #[nv] w fun e w'=>e=.returned (.int .i64 (if z=0 then 0 else if z<0 then -1 else 1))∧w.grownBy w' none:=by
 obtain ⟨v,rfl,hd⟩:=hx
 obtain ⟨A,c,rfl,hl⟩:=hd.ctor
 have gw:=Af w (.cells #[.bool (decide (z<0)),.slice A (d16 z).length c] 139) none
 have hB:=Blk.new w #[.bool (decide (z<0)),.slice A (d16 z).length c] 139
 obtain ⟨b0,b1,_⟩:=hB.two
 have h0:(d16 z).length=0↔z=0:=by rw [List.length_eq_zero_iff];exact L0
 clear hd hB
 generalize (d16 z).length=n at *
 by_cases hz:z=0
 ·rw [if_pos hz]
  obtain rfl:=h0.2 hz
  clear h0
  generalize decide (z<0)=neg at *
  clear hz
  go_enter Tryz.func82,Tryz.ntmps82
  go_wp2
  go_ret
  exact ⟨by first | rfl | go_num,gw⟩
 ·rw [if_neg hz]
  have t:((n:Int)==0)=false:=by rw [beq_eq_false_iff_ne];omega
  by_cases hn:z<0
  ·rw [if_pos hn]
   generalize hneg:decide (z<0)=neg at *
   obtain rfl:neg=true:=by rw [←hneg];exact decide_eq_true hn
   clear h0 hz hneg hn
   go_enter Tryz.func82,Tryz.ntmps82
   go_wp2
   go_ret
   exact ⟨by first | rfl | go_num,gw⟩
  ·rw [if_neg hn]
   generalize hneg:decide (z<0)=neg at *
   obtain rfl:neg=false:=by rw [←hneg];exact decide_eq_false hn
   clear h0 hz hneg hn
   go_enter Tryz.func82,Tryz.ntmps82
   go_wp2
   go_ret
   exact ⟨by first | rfl | go_num,gw⟩
end
section
open Go.RowKit Go.Maps
open Rat
theorem E8:NoD (Value.int .i64 0).cells.toList:=by
 intro u hu n
 simp [Value.cells] at hu
 subst hu
 simp
def i64s (ds:List Nat):List Value:=ds.map fun (d:Nat)=>.int .i64 (d:Int)
theorem OwnQ.d16 {w:World} {base:Nat} {e:TypeId} {v:Value} {n:Nat} {ds:List Nat} (h:OwnQ w base e 1 v n (i64s ds)) (hn:n=ds.length) (hd:∀ x∈ds,x<65536):D16 w v ds:=by
 subst hn
 have hc:∀ {g:Nat},v.ownBlock=some g→∀ j u,(i64s ds)[j]? = some u→w.cell? ((⟨g,0,none⟩:Addr).add j)=some u:=fun hg=>h.1.cells hg
 rcases h.1.2 with ⟨rfl,hn0⟩ | ⟨g,cap,cur,rfl,_,_,hnc,hcm,_⟩
 ·exact ⟨.inl ⟨rfl,List.eq_nil_of_length_eq_zero hn0⟩,hd⟩
 ·refine ⟨.inr ⟨g,0,cap,rfl,hnc,by simp only [maxLen] at hcm;omega,fun i hi=>?_⟩,hd⟩
  have:=hc (g:=g) rfl i (.int .i64 ((ds[i]?.getD 0:Nat):Int)) (by unfold i64s;rw [List.getElem?_map,List.getElem?_eq_getElem hi];rfl)
  rw [Me] at this
  rw [Nat.zero_add];exact this
end
section
open Go.RowKit
open Rat
theorem Oz (w:World) (b o c b' o' c':Nat) (xs ys:List Nat) (hl:Hid (xs.length=ys.length)) (h2:xs.length≤9223372036854775807)
  (hc:∀ i,i<xs.length→w.cell? ⟨b,o+i,none⟩=some (.int .i64 ((xs[i]?.getD 0:Nat):Int))) (hc':∀ i,i<xs.length→w.cell? ⟨b',o'+i,none⟩=some (.int .i64 ((ys[i]?.getD 0:Nat):Int))) :
  Calls Tryz.prog 234 #[.slice (some ⟨b,o,none⟩) xs.length c,.slice (some ⟨b',o',none⟩) xs.length c'] w fun e w'=>e=.returned (.int .i64 (cmpD xs ys xs.length))∧∃ n,w'=w.drewN n:=by
 go_enter Tryz.func234,Tryz.ntmps234
 go_wp2
 go_loopw [5] (fun i wr=>∃ k m:Nat,k≤xs.length∧i=.int .i64 ((k:Int)-1)∧wr=w.drewN m∧Hid (cmpD xs ys k=cmpD xs ys xs.length)) (fun i _=>(intOf i+1).toNat)
 case atStart=>exact ⟨_,0,Nat.le_refl _,rfl,rfl,rfl⟩
 case round =>
  obtain ⟨k,m,hk,rfl,rfl,ht⟩:=hrel
  by_cases hpos:0<k
  ·have g1:=hc (k-1) (by omega)
   have g2:=hc' (k-1) (by omega)
   have e1:(((k:Int)-1).toNat)=k-1:=by omega
   have HC:=Ac (Vi (xs:=xs) (ys:=ys) hpos)
   have HN:=Ac (Ql (xs:=xs) (ys:=ys) hpos)
   clear hc hc'
   generalize xs[k-1]?.getD 0=x at *
   generalize ys[k-1]?.getD 0=y at *
   by_cases hlt:x<y
   ·have HLT:=Ac hlt
    clear hlt
    have t1:(x:Int)<(y:Int):=by have:=HLT.out;omega
    go_wp2
    go_quiet (fail)
    go_wp2
    go_ret
    exact ⟨B9 (by rw [←ht.out,HN.out (by rw [bne_iff_ne];have:=HLT.out;omega),if_pos HLT.out]),_,by rw [World.drewN_drewN]⟩
   ·have HLT:=Ac hlt
    clear hlt
    by_cases hgt:y<x
    ·have HGT:=Ac hgt
     clear hgt
     have t1:¬ (x:Int)<(y:Int):=by have:=HLT.out;omega
     have t2:(y:Int)<(x:Int):=by have:=HGT.out;omega
     go_wp2
     go_quiet (fail)
     go_wp2
     go_quiet (fail)
     go_wp2
     go_ret
     exact ⟨B9 (by rw [←ht.out,HN.out (by rw [bne_iff_ne];have:=HGT.out;omega),if_neg HLT.out]),_,by rw [World.drewN_drewN,World.drewN_drewN]⟩
    ·have HGT:=Ac hgt
     clear hgt
     have t1:¬ (x:Int)<(y:Int):=by have:=HLT.out;omega
     have t2:¬ (y:Int)<(x:Int):=by have:=HGT.out;omega
     go_wp2
     go_quiet (fail)
     go_wp2
     go_quiet (fail)
     go_wp2
     exact ⟨⟨k-1,_,by omega,by go_num,by first | rfl | rw [World.drewN_drewN],Ac ((HC.out (by rw [bne_eq_false_iff_eq];have:=HLT.out;have:=HGT.out;omega)).trans ht.out)⟩,by simp [intOf];omega⟩
  ·go_wp2
   go_ret
   exact ⟨B9 (by rw [←ht.out];obtain rfl:k=0:=(by omega);rfl),m,rfl⟩
theorem J7 (w:World) (v1 v2:Value) (A A':Option Addr) (c c':Nat) (h1:v1=.slice A 0 c) (h2:v2=.slice A' 0 c') :
  Calls Tryz.prog 234 #[v1,v2] w fun e w'=>e=.returned (.int .i64 0)∧∃ n,w'=w.drewN n:=by
 subst h1 h2
 go_enter Tryz.func234,Tryz.ntmps234
 go_wp2
 go_loop [5] (fun i=>i=.int .i64 (-1)) (fun _=>0)
 case atStart=>rfl
 case round =>
  obtain rfl:=hrel
  go_wp2
  go_ret
  exact ⟨rfl,0,rfl⟩
theorem P2 (w:World) (A A':Option Addr) (n n' c c':Nat) (_hn:n≤9223372036854775807) (_hn':n'≤9223372036854775807) (h:¬ n=n') :
  Calls Tryz.prog 234 #[.slice A n c,.slice A' n' c'] w fun e w'=>e=.returned (.int .i64 (if n<n' then -1 else 1))∧∃ m,w'=w.drewN m:=by
 have t:(((n:Int)) != ((n':Int)))=true:=by rw [bne_iff_ne];omega
 have H:=Ac h
 clear h
 by_cases hl:n<n'
 all_goals
  rw [show (if n<n' then (-1:Int) else 1)=_ from by first | exact if_pos hl | exact if_neg hl]
  go_enter Tryz.func234,Tryz.ntmps234
  go_wp2
  go_ret
  exact ⟨rfl,0,rfl⟩
theorem Un (w:World) (v1 v2:Value) (xs ys:List Nat) (hx:D16 w v1 xs) (hy:D16 w v2 ys) :
  Calls Tryz.prog 234 #[v1,v2] w fun e w'=>e=.returned (.int .i64 (cmpL xs ys))∧∃ n,w'=w.drewN n:=by
 unfold cmpL
 by_cases hlen:xs.length=ys.length
 ·rw [if_pos hlen]
  rcases hx.1 with ⟨rfl,rfl⟩ | ⟨b,o,c,rfl,h1,h2,hc⟩
  ·obtain ⟨A',c',rfl,_⟩:=hy.ctor
   rw [←hlen]
   exact J7 w _ _ _ _ _ _ rfl rfl
  ·rcases hy.1 with ⟨rfl,rfl⟩ | ⟨b',o',c',rfl,h1',h2',hc'⟩
   ·simp only [List.length_nil] at hlen
    rw [hlen]
    exact J7 w _ _ _ _ _ _ rfl rfl
   ·rw [←hlen] at hc' ⊢
    exact Oz w b o c b' o' c' xs ys hlen (by omega) hc hc'
 ·rw [if_neg hlen]
  obtain ⟨A,c,rfl,hl1⟩:=hx.ctor
  obtain ⟨A',c',rfl,hl2⟩:=hy.ctor
  exact P2 w _ _ _ _ _ _ hl1 hl2 hlen
theorem Nn {xs ys:List Nat} (hx:∀ x∈xs,x<65536) (hy:∀ y∈ys,y<65536):∀ k,cmpD xs ys k=cmpN (val 65536 (xs.take k)) (val 65536 (ys.take k))
 | 0=>by simp [cmpD,cmpN,val]
 | k+1=>by
  rw [cmpD,B7,B7,Nn hx hy k,List.getD_eq_getElem?_getD,List.getD_eq_getElem?_getD]
  have a1:=Ef 65536 (xs.take k) (fun x h=>hx x (List.mem_of_mem_take h))
  have a2:=Ef 65536 (ys.take k) (fun x h=>hy x (List.mem_of_mem_take h))
  have b1:65536 ^ (xs.take k).length≤65536 ^ k:=Nat.pow_le_pow_right (by omega) (by simp;omega)
  have b2:65536 ^ (ys.take k).length≤65536 ^ k:=Nat.pow_le_pow_right (by omega) (by simp;omega)
  generalize val 65536 (xs.take k)=a at *
  generalize val 65536 (ys.take k)=b at *
  generalize xs[k]?.getD 0=x at *
  generalize ys[k]?.getD 0=y at *
  generalize 65536 ^ k=p at *
  split
  ·rename_i h;subst h;unfold cmpN;simp
  ·rename_i h
   split
   ·rename_i h'
    have:p*(x+1)≤p*y:=Nat.mul_le_mul_left p h'
    rw [Nat.mul_add] at this
    unfold cmpN;rw [if_pos (by omega)]
   ·rename_i h'
    have:p*(y+1)≤p*x:=Nat.mul_le_mul_left p (by omega)
    rw [Nat.mul_add] at this
    unfold cmpN;rw [if_neg (by omega),if_neg (by omega)]
theorem Uc (a b:Nat):cmpL (dig 65536 a) (dig 65536 b)=cmpN a b:=by
 have hB:2≤65536:=by omega
 unfold cmpL
 split
 ·rename_i h
  rw [Nn (Ev _ hB a) (Ev _ hB b),List.take_length,h,List.take_length,Ck _ hB,Ck _ hB]
 ·rename_i h
  have l1:=Bz 65536 hB a
  have l2:=Bz 65536 hB b
  have g1:=Ef 65536 _ (Ev _ hB a)
  have g2:=Ef 65536 _ (Ev _ hB b)
  rw [Ck _ hB] at g1 g2
  split
  ·rename_i h'
   have:=mt (l2 (dig 65536 a).length).2 (by omega)
   unfold cmpN;rw [if_pos (by omega)]
  ·rename_i h'
   have:=mt (l1 (dig 65536 b).length).2 (by omega)
   unfold cmpN;rw [if_neg (by omega),if_neg (by omega)]
theorem Gw (w:World) (v1 v2:Value) (a b:Nat) (hx:D16 w v1 (dig 65536 a)) (hy:D16 w v2 (dig 65536 b)) :
  Calls Tryz.prog 234 #[v1,v2] w fun e w'=>e=.returned (.int .i64 (cmpN a b))∧w.grownBy w' none:=by
 refine (Un w v1 v2 _ _ hx hy).mono ?_
 rintro e w' ⟨rfl,n,rfl⟩
 exact ⟨by rw [Uc],Az w n none⟩
end
section
open Go.RowKit Go.Maps
open Rat
theorem OwnQ.from {w:World} {base:Nat} {e:TypeId} {size n:Nat} {v:Value} {xs:List Value} (h:OwnQ w base e size v n xs):From base v:=by
 intro b hb
 rcases h.1.2 with ⟨rfl,_⟩ | ⟨g,cap,cur,rfl,hbb,_⟩
 ·simp [Value.ownBlock] at hb
 ·simp [Value.ownBlock] at hb;omega
theorem D16.at {w:World} {A:Option Addr} {n c:Nat} {ds:List Nat} (h:D16 w (.slice A n c) ds) {i:Nat} (hi:i<ds.length) :
  ∃ b o,A=some ⟨b,o,none⟩∧w.cell? ⟨b,o+i,none⟩=some (.int .i64 ((ds.getD i 0:Nat):Int))∧ds.getD i 0<65536:=by
 have hlt:ds.getD i 0<65536:=by rw [List.getD_eq_getElem?_getD,List.getElem?_eq_getElem hi];exact h.2 _ (List.getElem_mem _)
 rcases h.1 with ⟨_,rfl⟩ | ⟨b,o,c',e,h1,h2,h3⟩
 ·simp at hi
 ·injection e with e e1 e2
  subst e
  exact ⟨b,o,rfl,by rw [h3 i hi,List.getD_eq_getElem?_getD],hlt⟩
theorem E9 (x:Int):NoD (#[Value.int .i64 x]).toList:=by
 intro u hu n
 simp at hu
 subst hu
 simp
theorem Dj {ds:List Nat} {i:Nat} (h:¬ i<ds.length):ds.getD i 0=0:=by
 rw [List.getD_eq_getElem?_getD,List.getElem?_eq_none (by omega)];rfl
theorem Jo {xs ys ds:List Nat} {k q s:Nat} (hl:ds.length=k) (h:val 65536 ds+65536 ^ k*q=val 65536 (xs.take k)+val 65536 (ys.take k)) (hs:s=q+xs.getD k 0+ys.getD k 0) :
  val 65536 (ds++[s % 65536])+65536 ^ (k+1)*(s/65536)=val 65536 (xs.take (k+1))+val 65536 (ys.take (k+1)):=by
 rw [He,hl,B7,B7,Nat.pow_succ]
 simp only [val,Nat.mul_zero,Nat.add_zero]
 generalize 65536 ^ k=p at *
 have e:p*s=p*(s % 65536)+p*65536*(s/65536):=by rw [Nat.mul_assoc,←Nat.mul_add,Nat.mod_add_div]
 have e2:p*s=p*q+p*xs.getD k 0+p*ys.getD k 0:=by rw [hs,Nat.mul_add,Nat.mul_add]
 omega
set_option maxRecDepth 100000 in
theorem Rn (w:World) (v1 v2:Value) (xs ys:List Nat) (hx:D16 w v1 xs) (hy:D16 w v2 ys) (lx:xs.length≤1099511627776) (ly:ys.length≤1099511627776) :
  Calls Tryz.prog 233 #[v1,v2] w fun e w'=>∃ v',e=.returned v'∧D16 w' v' (dig 65536 (val 65536 xs+val 65536 ys))∧From w.heap.size v'∧w.grownBy w' none:=by
 obtain ⟨A1,c1,rfl,_⟩:=hx.ctor
 obtain ⟨A2,c2,rfl,_⟩:=hy.ctor
 have HX:=Ac hx
 have HY:=Ac hy
 clear hx hy
 go_enter Tryz.func233,Tryz.ntmps233
 go_wp2_with fail
 go_loopw [5,6,7] (fun bv cv i wr=>∃ (k q:Nat) (ds:List Nat),k≤max xs.length ys.length+1∧q≤1∧i=.int .i64 k∧cv=.int .i64 q∧w.grownBy wr none∧Hid (k=max xs.length ys.length+1→q=0)∧Hid (OwnQ wr w.heap.size 3 1 bv k (i64s ds))∧Hid ((∀ d∈ds,d<65536)∧ds.length=k∧val 65536 ds+65536 ^ k*q=val 65536 (xs.take k)+val 65536 (ys.take k))) (fun _ _ i _=>(max xs.length ys.length+1-intOf i).toNat)
 case atStart=>exact ⟨0,0,[],by omega,by omega,rfl,rfl,Al _ _,Ac (fun _=>rfl),Ac (OwnQ.nil _ _ _ _),Ac ⟨by simp,rfl,by simp [val]⟩⟩
 case round =>
  obtain ⟨k,q,ds,hk,hq,rfl,rfl,hg,hend,hown,hval⟩:=hrel
  by_cases a1:k<xs.length
  ·obtain ⟨b1,o1,rfl,u1,lx1⟩:=(HX.out.more hg).at a1
   generalize hxk:xs.getD k 0=x at *
   by_cases a2:k<ys.length
   ·obtain ⟨b2,o2,rfl,u2,ly1⟩:=(HY.out.more hg).at a2
    generalize hyk:ys.getD k 0=y at *
    obtain ⟨s,hs⟩:∃ s,s=q+x+y:=⟨_,rfl⟩
    have hS:(q:Int)+x+y=(s:Int):=by omega
    have HSUM:Hid (s=q+xs.getD k 0+ys.getD k 0):=Ac (by rw [hxk,hyk];exact hs)
    clear hxk hyk
    have hsb:s≤131071:=by omega
    clear hs
    have r1:(s:Int).tmod 65536=(s:Int) % 65536:=Int.tmod_eq_emod_of_nonneg (by omega)
    have r2:(s:Int).tdiv 65536=(s:Int)/65536:=Int.tdiv_eq_ediv_of_nonneg (by omega)
    have HS3:=Ac (show s≤131071 by omega)
    have hs1:=hg.size
    have HG:=Ac hg
    have HQ:=Ac hq
    have HKM:=Ac (show k≤max xs.length ys.length by omega)
    clear hg hk hend
    go_wp2_with (first
     | (at_builtin;refine Cu w.heap.size rfl (.tmp 46) (.tmp 49) 30 3 (.int .i64 0) 1 8 rfl Tryz.underlying30 Cm rfl (by omega) (by omega) u5 k (i64s ds) #[.int .i64 ((s:Int) % 65536)] (by rfl) hown.out (by rfl) (by rfl) (by simp [Value.oneCell']) (by omega) (by omega) (E9 _) E8 ?_;intro g cap w3 hown3 hgrow;have H3:=Ac (And.intro hown3 hgrow);clear hown3 hgrow)
     | fail)
    have hkm:=HKM.out
    have hs3:=HS3.out
    refine ⟨⟨k+1,s/65536,ds++[s % 65536],by omega,by omega,by go_num,by go_num,Gt (Ae HG.out (Af _ _ _)) (hown.out.more (Af _ _ _)) H3.out.2,Ac (fun h=>?_),Ac ?_,Ac ⟨?_,?_,?_⟩⟩,by simp [intOf];omega⟩
    ·have hsum:=HSUM.out
     have hq:=HQ.out
     rw [Dj (ds:=xs) (i:=k) (by omega),Dj (ds:=ys) (i:=k) (by omega)] at hsum
     omega
    ·have:=H3.out.1
     unfold i64s at *
     rw [List.map_append]
     simpa using this
    ·intro d hd
     rcases List.mem_append.1 hd with hd | hd
     ·exact hval.out.1 d hd
     ·simp at hd;omega
    ·rw [List.length_append,hval.out.2.1];rfl
    ·exact Jo hval.out.2.1 hval.out.2.2 HSUM.out
   ·obtain ⟨s,hs⟩:∃ s,s=q+x:=⟨_,rfl⟩
    have hS:(q:Int)+x=(s:Int):=by omega
    have HSUM:Hid (s=q+xs.getD k 0+ys.getD k 0):=Ac (by rw [hxk,Dj a2];exact hs)
    clear hxk
    have hsb:s≤131071:=by omega
    clear hs
    have r1:(s:Int).tmod 65536=(s:Int) % 65536:=Int.tmod_eq_emod_of_nonneg (by omega)
    have r2:(s:Int).tdiv 65536=(s:Int)/65536:=Int.tdiv_eq_ediv_of_nonneg (by omega)
    have HS3:=Ac (show s≤131071 by omega)
    have hs1:=hg.size
    have HG:=Ac hg
    have HQ:=Ac hq
    have HKM:=Ac (show k≤max xs.length ys.length by omega)
    clear hg hk hend
    go_wp2_with (first
     | (at_builtin;refine Cu w.heap.size rfl (.tmp 46) (.tmp 49) 30 3 (.int .i64 0) 1 8 rfl Tryz.underlying30 Cm rfl (by omega) (by omega) u5 k (i64s ds) #[.int .i64 ((s:Int) % 65536)] (by rfl) hown.out (by rfl) (by rfl) (by simp [Value.oneCell']) (by omega) (by omega) (E9 _) E8 ?_;intro g cap w3 hown3 hgrow;have H3:=Ac (And.intro hown3 hgrow);clear hown3 hgrow)
     | fail)
    have hkm:=HKM.out
    have hs3:=HS3.out
    refine ⟨⟨k+1,s/65536,ds++[s % 65536],by omega,by omega,by go_num,by go_num,Gt (Ae HG.out (Af _ _ _)) (hown.out.more (Af _ _ _)) H3.out.2,Ac (fun h=>?_),Ac ?_,Ac ⟨?_,?_,?_⟩⟩,by simp [intOf];omega⟩
    ·have hsum:=HSUM.out
     have hq:=HQ.out
     rw [Dj (ds:=xs) (i:=k) (by omega),Dj (ds:=ys) (i:=k) (by omega)] at hsum
     omega
    ·have:=H3.out.1
     unfold i64s at *
     rw [List.map_append]
     simpa using this
    ·intro d hd
     rcases List.mem_append.1 hd with hd | hd
     ·exact hval.out.1 d hd
     ·simp at hd;omega
    ·rw [List.length_append,hval.out.2.1];rfl
    ·exact Jo hval.out.2.1 hval.out.2.2 HSUM.out
  ·by_cases a2:k<ys.length
   ·obtain ⟨b2,o2,rfl,u2,ly1⟩:=(HY.out.more hg).at a2
    generalize hyk:ys.getD k 0=y at *
    obtain ⟨s,hs⟩:∃ s,s=q+y:=⟨_,rfl⟩
    have hS:(q:Int)+y=(s:Int):=by omega
    have HSUM:Hid (s=q+xs.getD k 0+ys.getD k 0):=Ac (by rw [hyk,Dj a1];exact hs)
    clear hyk
    have hsb:s≤131071:=by omega
    clear hs
    have r1:(s:Int).tmod 65536=(s:Int) % 65536:=Int.tmod_eq_emod_of_nonneg (by omega)
    have r2:(s:Int).tdiv 65536=(s:Int)/65536:=Int.tdiv_eq_ediv_of_nonneg (by omega)
    have HS3:=Ac (show s≤131071 by omega)
    have hs1:=hg.size
    have HG:=Ac hg
    have HQ:=Ac hq
    have HKM:=Ac (show k≤max xs.length ys.length by omega)
    clear hg hk hend
    go_wp2_with (first
     | (at_builtin;refine Cu w.heap.size rfl (.tmp 46) (.tmp 49) 30 3 (.int .i64 0) 1 8 rfl Tryz.underlying30 Cm rfl (by omega) (by omega) u5 k (i64s ds) #[.int .i64 ((s:Int) % 65536)] (by rfl) hown.out (by rfl) (by rfl) (by simp [Value.oneCell']) (by omega) (by omega) (E9 _) E8 ?_;intro g cap w3 hown3 hgrow;have H3:=Ac (And.intro hown3 hgrow);clear hown3 hgrow)
     | fail)
    have hkm:=HKM.out
    have hs3:=HS3.out
    refine ⟨⟨k+1,s/65536,ds++[s % 65536],by omega,by omega,by go_num,by go_num,Gt (Ae HG.out (Af _ _ _)) (hown.out.more (Af _ _ _)) H3.out.2,Ac (fun h=>?_),Ac ?_,Ac ⟨?_,?_,?_⟩⟩,by simp [intOf];omega⟩
    ·have hsum:=HSUM.out
     have hq:=HQ.out
     rw [Dj (ds:=xs) (i:=k) (by omega),Dj (ds:=ys) (i:=k) (by omega)] at hsum
     omega
    ·have:=H3.out.1
     unfold i64s at *
     rw [List.map_append]
     simpa using this
    ·intro d hd
     rcases List.mem_append.1 hd with hd | hd
     ·exact hval.out.1 d hd
     ·simp at hd;omega
    ·rw [List.length_append,hval.out.2.1];rfl
    ·exact Jo hval.out.2.1 hval.out.2.2 HSUM.out
   ·by_cases a3:0<q
    ·have hke:=hend.out
     have HSUM:Hid (q=q+xs.getD k 0+ys.getD k 0):=Ac (by rw [Dj a1,Dj a2];rfl)
     have a4:k≤max xs.length ys.length:=by omega
     clear hke
     have r1:(q:Int).tmod 65536=(q:Int) % 65536:=Int.tmod_eq_emod_of_nonneg (by omega)
     have r2:(q:Int).tdiv 65536=(q:Int)/65536:=Int.tdiv_eq_ediv_of_nonneg (by omega)
     have HS3:=Ac (show q≤131071 by omega)
     have hs1:=hg.size
     have HG:=Ac hg
     have HQ:=Ac hq
     have HKM:=Ac (show k≤max xs.length ys.length by omega)
     clear hg hk hend
     go_wp2_with (first
      | (at_builtin;refine Cu w.heap.size rfl (.tmp 46) (.tmp 49) 30 3 (.int .i64 0) 1 8 rfl Tryz.underlying30 Cm rfl (by omega) (by omega) u5 k (i64s ds) #[.int .i64 ((q:Int) % 65536)] (by rfl) hown.out (by rfl) (by rfl) (by simp [Value.oneCell']) (by omega) (by omega) (E9 _) E8 ?_;intro g cap w3 hown3 hgrow;have H3:=Ac (And.intro hown3 hgrow);clear hown3 hgrow)
      | fail)
     have hkm:=HKM.out
     have hs3:=HS3.out
     refine ⟨⟨k+1,q/65536,ds++[q % 65536],by omega,by omega,by go_num,by go_num,Gt (Ae HG.out (Af _ _ _)) (hown.out.more (Af _ _ _)) H3.out.2,Ac (fun h=>?_),Ac ?_,Ac ⟨?_,?_,?_⟩⟩,by simp [intOf];omega⟩
     ·have hsum:=HSUM.out
      have hq:=HQ.out
      rw [Dj (ds:=xs) (i:=k) (by omega),Dj (ds:=ys) (i:=k) (by omega)] at hsum
      omega
     ·have:=H3.out.1
      unfold i64s at *
      rw [List.map_append]
      simpa using this
     ·intro d hd
      rcases List.mem_append.1 hd with hd | hd
      ·exact hval.out.1 d hd
      ·simp at hd;omega
     ·rw [List.length_append,hval.out.2.1];rfl
     ·exact Jo hval.out.2.1 hval.out.2.2 HSUM.out
    ·obtain rfl:q=0:=by omega
     have hd:D16 wr u5 ds:=hown.out.d16 hval.out.2.1.symm hval.out.1
     have HD:=Ac hd
     have HFR:=Ac hown.out.from
     have HV:Hid (val 65536 ds=val 65536 xs+val 65536 ys):=Ac (by
      have:=hval.out.2.2
      rw [Ce _ _ _ (by omega),Ce _ _ _ (by omega)] at this
      omega)
     clear hown hval hd hend
     go_wp2_with fail
     refine (Fu wr u5 ds HD.out).mono ?_
     rintro e w' ⟨v',rfl,hd1,hob,rfl⟩
     rw [HV.out] at hd1
     have HD1:=Ac hd1
     have HOB:=Ac hob
     clear hd1 hob
     go_wp2_with fail
     go_ret
     exact ⟨v',rfl,HD1.out,fun b hb=>HFR.out b (by rw [←HOB.out];exact hb),hg⟩
end
section
open Go.RowKit Go.Maps
open Rat
theorem Ik {xs ys ds:List Nat} {k q q' d:Nat} (hl:ds.length=k) (h:val 65536 (xs.take k)+65536 ^ k*q=val 65536 ds+val 65536 (ys.take k)) (hs:xs.getD k 0+65536*q'=d+q+ys.getD k 0) :
  val 65536 (xs.take (k+1))+65536 ^ (k+1)*q'=val 65536 (ds++[d])+val 65536 (ys.take (k+1)):=by
 rw [He,hl,B7,B7,Nat.pow_succ]
 simp only [val,Nat.mul_zero,Nat.add_zero]
 generalize 65536 ^ k=p at *
 have e:p*xs.getD k 0+p*65536*q'=p*d+p*q+p*ys.getD k 0:=by rw [Nat.mul_assoc,←Nat.mul_add,hs,Nat.mul_add,Nat.mul_add]
 omega
set_option maxRecDepth 100000 in
theorem Ia (w:World) (v1 v2:Value) (xs ys:List Nat) (hx:D16 w v1 xs) (hy:D16 w v2 ys) (lx:xs.length≤1099511627776) (ly:ys.length≤xs.length) (hge:val 65536 ys≤val 65536 xs) :
  Calls Tryz.prog 227 #[v1,v2] w fun e w'=>∃ v',e=.returned v'∧D16 w' v' (dig 65536 (val 65536 xs-val 65536 ys))∧From w.heap.size v'∧w.grownBy w' none:=by
 obtain ⟨A1,c1,rfl,_⟩:=hx.ctor
 obtain ⟨A2,c2,rfl,_⟩:=hy.ctor
 have HX:=Ac hx
 have HY:=Ac hy
 have HGE:=Ac hge
 clear hx hy hge
 go_enter Tryz.func227,Tryz.ntmps227
 go_wp2_with fail
 go_loopw [5,6,7] (fun bv cv i wr=>∃ (k q:Nat) (ds:List Nat),k≤xs.length∧q≤1∧i=.int .i64 k∧cv=.int .i64 q∧w.grownBy wr none∧Hid (OwnQ wr w.heap.size 3 1 bv k (i64s ds))∧Hid ((∀ d∈ds,d<65536)∧ds.length=k∧val 65536 (xs.take k)+65536 ^ k*q=val 65536 ds+val 65536 (ys.take k))) (fun _ _ i _=>(xs.length-intOf i).toNat)
 case atStart=>exact ⟨0,0,[],by omega,by omega,rfl,rfl,Al _ _,Ac (OwnQ.nil _ _ _ _),Ac ⟨by simp,rfl,by simp [val]⟩⟩
 case round =>
  obtain ⟨k,q,ds,hk,hq,rfl,rfl,hg,hown,hval⟩:=hrel
  by_cases a1:k<xs.length
  ·obtain ⟨b1,o1,rfl,u1,lx1⟩:=(HX.out.more hg).at a1
   generalize hxk:xs.getD k 0=x at *
   by_cases a2:k<ys.length
   ·obtain ⟨b2,o2,rfl,u2,ly1⟩:=(HY.out.more hg).at a2
    generalize hyk:ys.getD k 0=y at *
    by_cases hneg:(x:Int)-(q:Int)-(y:Int)<0
    ·obtain ⟨d,hS⟩:∃ d:Nat,(x:Int)-(q:Int)-(y:Int)+65536=(d:Int):=⟨((x:Int)-(q:Int)-(y:Int)+65536).toNat,by omega⟩
     have hd:d<65536:=by omega
     have HSUM:Hid (xs.getD k 0+65536*1=d+q+ys.getD k 0):=Ac (by rw [hxk,hyk];omega)
     clear hxk hyk
     have HLT:=Ac a1
     have hs1:=hg.size
     have HG:=Ac hg
     have HD:=Ac hd
     clear hg
     go_wp2_with (first
      | (at_builtin;refine Cu w.heap.size rfl (.tmp 35) (.tmp 37) 30 3 (.int .i64 0) 1 8 rfl Tryz.underlying30 Cm rfl (by omega) (by omega) u5 k (i64s ds) #[.int .i64 (d:Int)] (by rfl) hown.out (by rfl) (by rfl) (by simp [Value.oneCell']) (by omega) (by omega) (E9 _) E8 ?_;intro g cap w3 hown3 hgrow;have H3:=Ac (And.intro hown3 hgrow);clear hown3 hgrow)
      | fail)
     have hlt:=HLT.out
     refine ⟨⟨k+1,1,ds++[d],hlt,by omega,by go_num,by first | rfl | go_num,Gt (Ae HG.out (Af _ _ _)) (hown.out.more (Af _ _ _)) H3.out.2,Ac ?_,Ac ⟨?_,?_,?_⟩⟩,by simp [intOf];omega⟩
     ·have:=H3.out.1
      unfold i64s at *
      rw [List.map_append]
      simpa using this
     ·intro e he
      rcases List.mem_append.1 he with he | he
      ·exact hval.out.1 e he
      ·simp at he;have:=HD.out;omega
     ·rw [List.length_append,hval.out.2.1];rfl
     ·exact Ik hval.out.2.1 hval.out.2.2 HSUM.out
    ·obtain ⟨d,hS⟩:∃ d:Nat,(x:Int)-(q:Int)-(y:Int)=(d:Int):=⟨((x:Int)-(q:Int)-(y:Int)).toNat,by omega⟩
     have hd:d<65536:=by omega
     have HSUM:Hid (xs.getD k 0+65536*0=d+q+ys.getD k 0):=Ac (by rw [hxk,hyk];omega)
     rw [hS] at hneg
     clear hxk hyk
     have HLT:=Ac a1
     have hs1:=hg.size
     have HG:=Ac hg
     have HD:=Ac hd
     clear hg
     go_wp2_with (first
      | (at_builtin;refine Cu w.heap.size rfl (.tmp 35) (.tmp 37) 30 3 (.int .i64 0) 1 8 rfl Tryz.underlying30 Cm rfl (by omega) (by omega) u5 k (i64s ds) #[.int .i64 (d:Int)] (by rfl) hown.out (by rfl) (by rfl) (by simp [Value.oneCell']) (by omega) (by omega) (E9 _) E8 ?_;intro g cap w3 hown3 hgrow;have H3:=Ac (And.intro hown3 hgrow);clear hown3 hgrow)
      | fail)
     have hlt:=HLT.out
     refine ⟨⟨k+1,0,ds++[d],hlt,by omega,by go_num,by first | rfl | go_num,Gt (Ae HG.out (Af _ _ _)) (hown.out.more (Af _ _ _)) H3.out.2,Ac ?_,Ac ⟨?_,?_,?_⟩⟩,by simp [intOf];omega⟩
     ·have:=H3.out.1
      unfold i64s at *
      rw [List.map_append]
      simpa using this
     ·intro e he
      rcases List.mem_append.1 he with he | he
      ·exact hval.out.1 e he
      ·simp at he;have:=HD.out;omega
     ·rw [List.length_append,hval.out.2.1];rfl
     ·exact Ik hval.out.2.1 hval.out.2.2 HSUM.out
   ·have hyk:=Dj a2
    by_cases hneg:(x:Int)-(q:Int)<0
    ·obtain ⟨d,hS⟩:∃ d:Nat,(x:Int)-(q:Int)+65536=(d:Int):=⟨((x:Int)-(q:Int)+65536).toNat,by omega⟩
     have hd:d<65536:=by omega
     have HSUM:Hid (xs.getD k 0+65536*1=d+q+ys.getD k 0):=Ac (by rw [hxk,hyk];omega)
     clear hxk hyk
     have HLT:=Ac a1
     have hs1:=hg.size
     have HG:=Ac hg
     have HD:=Ac hd
     clear hg
     go_wp2_with (first
      | (at_builtin;refine Cu w.heap.size rfl (.tmp 35) (.tmp 37) 30 3 (.int .i64 0) 1 8 rfl Tryz.underlying30 Cm rfl (by omega) (by omega) u5 k (i64s ds) #[.int .i64 (d:Int)] (by rfl) hown.out (by rfl) (by rfl) (by simp [Value.oneCell']) (by omega) (by omega) (E9 _) E8 ?_;intro g cap w3 hown3 hgrow;have H3:=Ac (And.intro hown3 hgrow);clear hown3 hgrow)
      | fail)
     have hlt:=HLT.out
     refine ⟨⟨k+1,1,ds++[d],hlt,by omega,by go_num,by first | rfl | go_num,Gt (Ae HG.out (Af _ _ _)) (hown.out.more (Af _ _ _)) H3.out.2,Ac ?_,Ac ⟨?_,?_,?_⟩⟩,by simp [intOf];omega⟩
     ·have:=H3.out.1
      unfold i64s at *
      rw [List.map_append]
      simpa using this
     ·intro e he
      rcases List.mem_append.1 he with he | he
      ·exact hval.out.1 e he
      ·simp at he;have:=HD.out;omega
     ·rw [List.length_append,hval.out.2.1];rfl
     ·exact Ik hval.out.2.1 hval.out.2.2 HSUM.out
    ·obtain ⟨d,hS⟩:∃ d:Nat,(x:Int)-(q:Int)=(d:Int):=⟨((x:Int)-(q:Int)).toNat,by omega⟩
     have hd:d<65536:=by omega
     have HSUM:Hid (xs.getD k 0+65536*0=d+q+ys.getD k 0):=Ac (by rw [hxk,hyk];omega)
     rw [hS] at hneg
     clear hxk hyk
     have HLT:=Ac a1
     have hs1:=hg.size
     have HG:=Ac hg
     have HD:=Ac hd
     clear hg
     go_wp2_with (first
      | (at_builtin;refine Cu w.heap.size rfl (.tmp 35) (.tmp 37) 30 3 (.int .i64 0) 1 8 rfl Tryz.underlying30 Cm rfl (by omega) (by omega) u5 k (i64s ds) #[.int .i64 (d:Int)] (by rfl) hown.out (by rfl) (by rfl) (by simp [Value.oneCell']) (by omega) (by omega) (E9 _) E8 ?_;intro g cap w3 hown3 hgrow;have H3:=Ac (And.intro hown3 hgrow);clear hown3 hgrow)
      | fail)
     have hlt:=HLT.out
     refine ⟨⟨k+1,0,ds++[d],hlt,by omega,by go_num,by first | rfl | go_num,Gt (Ae HG.out (Af _ _ _)) (hown.out.more (Af _ _ _)) H3.out.2,Ac ?_,Ac ⟨?_,?_,?_⟩⟩,by simp [intOf];omega⟩
     ·have:=H3.out.1
      unfold i64s at *
      rw [List.map_append]
      simpa using this
     ·intro e he
      rcases List.mem_append.1 he with he | he
      ·exact hval.out.1 e he
      ·simp at he;have:=HD.out;omega
     ·rw [List.length_append,hval.out.2.1];rfl
     ·exact Ik hval.out.2.1 hval.out.2.2 HSUM.out
  ·obtain rfl:k=xs.length:=by omega
   have hd:D16 wr u5 ds:=hown.out.d16 hval.out.2.1.symm hval.out.1
   have HD:=Ac hd
   have HFR:=Ac hown.out.from
   have HV:Hid (val 65536 ds=val 65536 xs-val 65536 ys):=Ac (by
    obtain ⟨h1,h2,h3⟩:=hval.out
    rw [List.take_length,Ce _ _ _ ly] at h3
    have h4:=Ef 65536 ds h1
    rw [h2] at h4
    have h5:=HGE.out
    have h6:q=0∨q=1:=by omega
    rcases h6 with h6 | h6
    ·rw [h6] at h3;omega
    ·rw [h6] at h3;omega)
   clear hown hval hd
   go_wp2_with fail
   refine (Fu wr u5 ds HD.out).mono ?_
   rintro e w' ⟨v',rfl,hd1,hob,rfl⟩
   rw [HV.out] at hd1
   have HD1:=Ac hd1
   have HOB:=Ac hob
   clear hd1 hob
   go_wp2_with fail
   go_ret
   exact ⟨v',rfl,HD1.out,fun b hb=>HFR.out b (by rw [←HOB.out];exact hb),hg⟩
end
section
open Go.RowKit Go.Maps
open Rat
theorem Ei (z:Int):val 65536 (d16 z)=z.natAbs:=Ck 65536 (by omega) _
theorem Zw {x y:Int} (h:decide (x<0)=decide (y<0)):x.natAbs+y.natAbs=(x+y).natAbs:=by
 by_cases hx:x<0
 ·rw [decide_eq_true hx] at h;have:=of_decide_eq_true h.symm;omega
 ·rw [decide_eq_false hx] at h;have:=of_decide_eq_false h.symm;omega
theorem S7 {x y:Int} (h:¬ decide (x<0)=decide (y<0)) (hle:y.natAbs≤x.natAbs):x.natAbs-y.natAbs=(x+y).natAbs:=by
 by_cases hx:x<0
 ·by_cases hy:y<0
  ·exact absurd (by rw [decide_eq_true hx,decide_eq_true hy]) h
  ·omega
 ·by_cases hy:y<0
  ·omega
  ·exact absurd (by rw [decide_eq_false hx,decide_eq_false hy]) h
theorem Ns {x y:Int} (h:y.natAbs≤x.natAbs):(d16 y).length≤(d16 x).length:=by
 have hB:2≤65536:=by omega
 refine (Bz 65536 hB y.natAbs _).2 ?_
 have:=(Bz 65536 hB x.natAbs (d16 x).length).1 (Nat.le_refl _)
 omega
set_option maxRecDepth 100000 in
theorem Rl (w:World) (v1 v2:Value) (x y:Int) (hx:NZ w v1 x) (hy:NZ w v2 y) (lx:(d16 x).length≤1099511627776) (ly:(d16 y).length≤1099511627776) :
    Calls Tryz.prog 159 #[v1,v2] w fun e w'=>∃ nv,e=.returned nv∧NZ w' nv (x+y)∧w.grownBy w' none:=by
  obtain ⟨u1,rfl,hx⟩:=hx
  obtain ⟨u2,rfl,hy⟩:=hy
  obtain ⟨A1,c1,rfl,_⟩:=hx.ctor
  obtain ⟨A2,c2,rfl,_⟩:=hy.ctor
  have LX:=Ac lx
  have LY:=Ac ly
  have hn1:decide (x<0)=decide (x<0):=rfl
  generalize hm1:(d16 x).length=m1 at *
  generalize hm2:(d16 y).length=m2 at *
  generalize hd1:decide (x<0)=n1 at *
  generalize hd2:decide (y<0)=n2 at *
  have HN1:=Ac hd1
  have HN2:=Ac hd2
  clear hn1 hd1 hd2 lx ly
  have gw:=Ae (Ae (Af w (.cells #[.bool n1,.slice A1 m1 c1] 139) none) (Af _ (.cells #[.bool n2,.slice A2 m2 c2] 139) none)) (Af _ (.cells #[.bool false,.slice none 0 0] 139) none)
  have hB1:=(Blk.new w #[.bool n1,.slice A1 m1 c1] 139).more (Ae (Af _ (.cells #[.bool n2,.slice A2 m2 c2] 139) none) (Af _ (.cells #[.bool false,.slice none 0 0] 139) none))
  have hB2:=(Blk.new (w.alloc (.cells #[.bool n1,.slice A1 m1 c1] 139)) #[.bool n2,.slice A2 m2 c2] 139).more (Af _ (.cells #[.bool false,.slice none 0 0] 139) none)
  have hB3:=Blk.new ((w.alloc (.cells #[.bool n1,.slice A1 m1 c1] 139)).alloc (.cells #[.bool n2,.slice A2 m2 c2] 139)) #[.bool false,.slice none 0 0] 139
  rw [World.size_alloc] at hB2 hB3
  rw [World.size_alloc] at hB3
  have hsz:(((w.alloc (.cells #[.bool n1,.slice A1 m1 c1] 139)).alloc (.cells #[.bool n2,.slice A2 m2 c2] 139)).alloc (.cells #[.bool false,.slice none 0 0] 139)).heap.size=w.heap.size+3:=by simp
  have HX:=Ac (hx.more gw)
  have HY:=Ac (hy.more gw)
  have HB1:=Ac hB1
  have HB2:=Ac hB2
  have HB3:=Ac hB3
  have HSZ:=Ac hsz
  have HGW:=Ac gw
  clear hx hy hB1 hB2 hB3 hsz gw
  have HM1:=Ac hm1
  have HM2:=Ac hm2
  clear hm1 hm2
  by_cases hsame:n1=n2
  · subst hsame
    have t:(n1==n1)=true:=by simp
    go_enter Tryz.func159,Tryz.ntmps159
    go_wp2_with fail
    generalize ((w.alloc (.cells #[.bool n1,.slice A1 m1 c1] 139)).alloc (.cells #[.bool n1,.slice A2 m2 c2] 139)).alloc (.cells #[.bool false,.slice none 0 0] 139)=wa at *
    generalize hs:w.heap.size=s at *
    have HS:=Ac hs
    clear hs
    obtain ⟨x0,x1,_⟩:=HB1.out.two
    obtain ⟨y0,y1,_⟩:=HB2.out.two
    refine (Rn wa _ _ _ _ HX.out HY.out (by rw [HM1.out];exact LX.out) (by rw [HM2.out];exact LY.out)).mono ?_
    rintro e w1 ⟨v5,rfl,hd5,hf5,hg5⟩
    rw [Ei,Ei,Zw (HN1.out.trans HN2.out.symm)] at hd5
    change D16 w1 v5 (d16 (x+y)) at hd5
    obtain ⟨A5,c5,rfl,hl5⟩:=hd5.ctor
    have HZ0:Hid ((d16 (x+y)).length=0↔x+y=0):=Ac (by rw [List.length_eq_zero_iff];exact L0)
    have HD5:=Ac hd5
    have HFAR:Hid ((Value.slice A5 (d16 (x+y)).length c5).ownBlock≠some (s+1+1)):=Ac (fun e=>by have h1:=hf5 _ e;have h2:=HSZ.out;omega)
    have HG1:=Ac (Ae HGW.out hg5)
    clear x0 x1 y0 y1
    obtain ⟨x0,x1,_⟩:=(HB1.out.more hg5).two
    obtain ⟨y0,y1,_⟩:=(HB2.out.more hg5).two
    obtain ⟨d0,d1,f0,f1⟩:=(HB3.out.more hg5).two
    clear hd5 hf5 hg5
    generalize (d16 (x+y)).length=n5 at *
    cases n1 with
    | false =>
      have HSGN:Hid (decide (x+y<0)=false):=Ac (by have h1:=of_decide_eq_false HN1.out;have h2:=of_decide_eq_false HN2.out;exact decide_eq_false (by omega))
      go_wp2
      try simp only [Exit.inBlock,Exit.then]
      have hg6:w1.grownBy ((w1.setCell ⟨s+1+1,0,none⟩ (.bool false)).setCell ⟨s+1+1,1,none⟩ (.slice A5 n5 c5)) (some (s+1+1)):=Ae (Au _ _ _ _) (Au _ _ _ _)
      refine bodyPost_ret (v:=.agg #[.bool false,.slice A5 n5 c5]) (by simp [results,Tryz.results159,go_sem, *]) rfl ⟨_,rfl,⟨.slice A5 n5 c5,?_,?_⟩,Aw HG1.out hg6 (by have:=HS.out;omega)⟩
      · rw [HSGN.out]
      · exact HD5.out.apart hg6 HFAR.out
    | true =>
      have hneg:x+y<0:=by have h1:=of_decide_eq_true HN1.out;have h2:=of_decide_eq_true HN2.out;omega
      have HSGN:Hid (decide (x+y<0)=true):=Ac (decide_eq_true hneg)
      have hp:0<n5:=Nat.pos_of_ne_zero (fun e=>by have:=HZ0.out.1 e;omega)
      have t0:(0:Int)<(n5:Int):=by omega
      clear hneg
      go_wp2
      try simp only [Exit.inBlock,Exit.then]
      have hg6:w1.grownBy ((w1.setCell ⟨s+1+1,0,none⟩ (.bool true)).setCell ⟨s+1+1,1,none⟩ (.slice A5 n5 c5)) (some (s+1+1)):=Ae (Au _ _ _ _) (Au _ _ _ _)
      refine bodyPost_ret (v:=.agg #[.bool true,.slice A5 n5 c5]) (by simp [results,Tryz.results159,go_sem, *]) rfl ⟨_,rfl,⟨.slice A5 n5 c5,?_,?_⟩,Aw HG1.out hg6 (by have:=HS.out;omega)⟩
      · rw [HSGN.out]
      · exact HD5.out.apart hg6 HFAR.out
  · have t:(n1==n2)=false:=by rw [beq_eq_false_iff_ne];exact hsame
    have HNE:=Ac hsame
    clear hsame
    go_enter Tryz.func159,Tryz.ntmps159
    go_wp2_with fail
    generalize ((w.alloc (.cells #[.bool n1,.slice A1 m1 c1] 139)).alloc (.cells #[.bool n2,.slice A2 m2 c2] 139)).alloc (.cells #[.bool false,.slice none 0 0] 139)=wa at *
    generalize hs:w.heap.size=s at *
    have HS:=Ac hs
    clear hs
    obtain ⟨x0,x1,_⟩:=HB1.out.two
    obtain ⟨y0,y1,_⟩:=HB2.out.two
    refine (Gw wa _ _ _ _ HX.out HY.out).mono ?_
    rintro e w0 ⟨rfl,hg0⟩
    by_cases hle:y.natAbs≤x.natAbs
    · have hc:(0:Int)≤cmpN x.natAbs y.natAbs:=by unfold cmpN;rw [if_neg (by omega)];split<;>omega
      have HLE:=Ac hle
      clear hle
      generalize cmpN x.natAbs y.natAbs=r at *
      clear x0 x1 y0 y1
      obtain ⟨x0,x1,_⟩:=(HB1.out.more hg0).two
      obtain ⟨y0,y1,_⟩:=(HB2.out.more hg0).two
      have HG0:=Ac hg0
      clear hg0
      go_wp2_with fail
      refine (Ia w0 _ _ _ _ (HX.out.more HG0.out) (HY.out.more HG0.out) (by rw [HM1.out];exact LX.out) (Ns HLE.out) (by rw [Ei,Ei];exact HLE.out)).mono ?_
      rintro e w1 ⟨v5,rfl,hd5,hf5,hg5'⟩
      have hg5:=Ae HG0.out hg5'
      have hf5:From wa.heap.size v5:=hf5.mono HG0.out.size
      clear hg5'
      rw [Ei,Ei,S7 (fun e=>HNE.out (HN1.out.symm.trans (e.trans HN2.out))) HLE.out] at hd5
      change D16 w1 v5 (d16 (x+y)) at hd5
      obtain ⟨A5,c5,rfl,hl5⟩:=hd5.ctor
      have HZ0:Hid ((d16 (x+y)).length=0↔x+y=0):=Ac (by rw [List.length_eq_zero_iff];exact L0)
      have HD5:=Ac hd5
      have HFAR:Hid ((Value.slice A5 (d16 (x+y)).length c5).ownBlock≠some (s+1+1)):=Ac (fun e=>by have h1:=hf5 _ e;have h2:=HSZ.out;omega)
      have HG1:=Ac (Ae HGW.out hg5)
      clear x0 x1 y0 y1
      obtain ⟨x0,x1,_⟩:=(HB1.out.more hg5).two
      obtain ⟨y0,y1,_⟩:=(HB2.out.more hg5).two
      obtain ⟨d0,d1,f0,f1⟩:=(HB3.out.more hg5).two
      clear hd5 hf5 hg5
      generalize (d16 (x+y)).length=n5 at *
      cases n1 with
      | false =>
        have HSGN:Hid (decide (x+y<0)=false):=Ac (by have h1:=of_decide_eq_false HN1.out;have h2:=HLE.out;exact decide_eq_false (by omega))
        go_wp2
        try simp only [Exit.inBlock,Exit.then]
        have hg6:w1.grownBy ((w1.setCell ⟨s+1+1,0,none⟩ (.bool false)).setCell ⟨s+1+1,1,none⟩ (.slice A5 n5 c5)) (some (s+1+1)):=Ae (Au _ _ _ _) (Au _ _ _ _)
        refine bodyPost_ret (v:=.agg #[.bool false,.slice A5 n5 c5]) (by simp [results,Tryz.results159,go_sem, *]) rfl ⟨_,rfl,⟨.slice A5 n5 c5,?_,?_⟩,Aw HG1.out hg6 (by have:=HS.out;omega)⟩
        · rw [HSGN.out]
        · exact HD5.out.apart hg6 HFAR.out
      | true =>
        have h1:=of_decide_eq_true HN1.out
        have h2:¬ y<0:=fun h=>HNE.out (by rw [←HN2.out,decide_eq_true h])
        by_cases hz:n5=0
        · subst hz
          have h3:=HZ0.out.1 rfl
          have HSGN:Hid (decide (x+y<0)=false):=Ac (decide_eq_false (by omega))
          clear h1 h2 h3
          go_wp2
          try simp only [Exit.inBlock,Exit.then]
          have hg6:w1.grownBy ((w1.setCell ⟨s+1+1,0,none⟩ (.bool false)).setCell ⟨s+1+1,1,none⟩ (.slice A5 0 c5)) (some (s+1+1)):=Ae (Au _ _ _ _) (Au _ _ _ _)
          refine bodyPost_ret (v:=.agg #[.bool false,.slice A5 0 c5]) (by simp [results,Tryz.results159,go_sem, *]) rfl ⟨_,rfl,⟨.slice A5 0 c5,?_,?_⟩,Aw HG1.out hg6 (by have:=HS.out;omega)⟩
          · rw [HSGN.out]
          · exact HD5.out.apart hg6 HFAR.out
        · have h3:x+y≠0:=fun e=>hz (HZ0.out.2 e)
          have h4:=HLE.out
          have HSGN:Hid (decide (x+y<0)=true):=Ac (decide_eq_true (by omega))
          have hp:0<n5:=by omega
          have t0:(0:Int)<(n5:Int):=by omega
          clear h1 h2 h3 h4 hz
          go_wp2
          try simp only [Exit.inBlock,Exit.then]
          have hg6:w1.grownBy ((w1.setCell ⟨s+1+1,0,none⟩ (.bool true)).setCell ⟨s+1+1,1,none⟩ (.slice A5 n5 c5)) (some (s+1+1)):=Ae (Au _ _ _ _) (Au _ _ _ _)
          refine bodyPost_ret (v:=.agg #[.bool true,.slice A5 n5 c5]) (by simp [results,Tryz.results159,go_sem, *]) rfl ⟨_,rfl,⟨.slice A5 n5 c5,?_,?_⟩,Aw HG1.out hg6 (by have:=HS.out;omega)⟩
          · rw [HSGN.out]
          · exact HD5.out.apart hg6 HFAR.out
    · have hc:¬ (0:Int)≤cmpN x.natAbs y.natAbs:=by unfold cmpN;rw [if_pos (by omega)];omega
      have HLE:Hid (x.natAbs<y.natAbs):=Ac (by omega)
      clear hle
      generalize cmpN x.natAbs y.natAbs=r at *
      clear x0 x1 y0 y1
      have K:∀ w',w0.grownBy w' none→w'.cell? ⟨s+1,0,none⟩=some (.bool n2)∧w'.cell? ⟨s+1,1,none⟩=some (.slice A2 m2 c2)∧w'.cell? ⟨s,1,none⟩=some (.slice A1 m1 c1):=fun w' h=>⟨(HB2.out.more (Ae hg0 h)).cell 0,(HB2.out.more (Ae hg0 h)).cell 1,(HB1.out.more (Ae hg0 h)).cell 1⟩
      obtain ⟨x0,_⟩:=(HB1.out.more hg0).two
      obtain ⟨k0,k1,k2⟩:=K _ (Al _ _)
      have HK:=Ac K
      have HG0:=Ac hg0
      have ne1:s+1+1≠s:=by omega
      have ne2:s≠s+1+1:=by omega
      clear hg0 K
      go_wp2_with fail
      go_region_held3 (fun w'=>w'.cell? ⟨s+1,0,none⟩=some (.bool n2)∧w'.cell? ⟨s+1,1,none⟩=some (.slice A2 m2 c2)∧w'.cell? ⟨s,1,none⟩=some (.slice A1 m1 c1)) (first | go_keep | exact HK.out _ (by (focus ((repeat (first | assumption | exact Al _ _ | exact Ai _ _ | exact Af _ _ _ | refine Ae ?_ (Af _ _ _) | refine Ae ?_ (Ai _ _) | refine Ae ?_ (by assumption)));done))))
       (first
       | (go_at_call 227;refine (Ia _ _ _ _ _ (HY.out.more (Ae HG0.out (by (focus ((repeat (first | assumption | exact Al _ _ | exact Ai _ _ | exact Af _ _ _ | refine Ae ?_ (Af _ _ _) | refine Ae ?_ (Ai _ _) | refine Ae ?_ (by assumption)));done))))) (HX.out.more (Ae HG0.out (by (focus ((repeat (first | assumption | exact Al _ _ | exact Ai _ _ | exact Af _ _ _ | refine Ae ?_ (Af _ _ _) | refine Ae ?_ (Ai _ _) | refine Ae ?_ (by assumption)));done))))) (by rw [HM2.out];exact LY.out) (Ns (Nat.le_of_lt HLE.out)) (by rw [Ei,Ei];exact Nat.le_of_lt HLE.out)).mono ?_;rintro e w1 ⟨v5,rfl,hd5,hf5,hg5'⟩;rw [Ei,Ei,S7 (fun e=>HNE.out (HN1.out.symm.trans (e.symm.trans HN2.out))) (Nat.le_of_lt HLE.out),Int.add_comm] at hd5;have hd5:D16 w1 v5 (d16 (x+y)):=hd5;obtain ⟨A5,c5,rfl,hl5⟩:=hd5.ctor;have hf6:=hf5.mono (Ae HG0.out (show w0.grownBy _ none by (focus ((repeat (first | assumption | exact Al _ _ | exact Ai _ _ | exact Af _ _ _ | refine Ae ?_ (Af _ _ _) | refine Ae ?_ (Ai _ _) | refine Ae ?_ (by assumption)));done)))).size;have HD5:=Ac hd5;have HF6:=Ac hf6;clear hf5 hf6;have g5:w0.grownBy w1 none:=Ae (by (focus ((repeat (first | assumption | exact Al _ _ | exact Ai _ _ | exact Af _ _ _ | refine Ae ?_ (Af _ _ _) | refine Ae ?_ (Ai _ _) | refine Ae ?_ (by assumption)));done))) hg5';obtain ⟨d0,d1,f0,f1⟩:=(HB3.out.more (Ae HG0.out g5)).two))
      all_goals
        have HFAR:Hid ((Value.slice A5 (d16 (x+y)).length c5).ownBlock≠some (s+1+1)):=Ac (fun e=>by have h1:=HF6.out _ e;have h2:=HSZ.out;omega)
        have HG1:=Ac (Ae HGW.out (Ae HG0.out g5))
        have HSGN:Hid (decide (x+y<0)=n2):=Ac (by
          rw [←HN2.out]
          have h1:=HLE.out
          by_cases hy:y<0
          · rw [decide_eq_true hy];exact decide_eq_true (by omega)
          · rw [decide_eq_false hy];exact decide_eq_false (by omega))
        go_wp2
        try simp only [Exit.inBlock,Exit.then]
        have hg6:w1.grownBy ((w1.setCell ⟨s+1+1,0,none⟩ (.bool n2)).setCell ⟨s+1+1,1,none⟩ (.slice A5 (d16 (x+y)).length c5)) (some (s+1+1)):=Ae (Au _ _ _ _) (Au _ _ _ _)
        refine bodyPost_ret (v:=.agg #[.bool n2,.slice A5 (d16 (x+y)).length c5]) (by simp [results,Tryz.results159,go_sem, *]) rfl ⟨_,rfl,⟨.slice A5 (d16 (x+y)).length c5,?_,?_⟩,Aw HG1.out hg6 (by have:=HS.out;omega)⟩
        · rw [HSGN.out]
        · exact HD5.out.apart hg6 HFAR.out
end
end Go.Proofs.YtckbiimikeiejaaGreatDoor
