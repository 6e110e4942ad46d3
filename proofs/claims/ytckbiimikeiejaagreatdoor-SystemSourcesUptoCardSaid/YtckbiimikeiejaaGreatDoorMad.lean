/- BigJ. -/
import Derived.Test.YtckbiimikeiejaaGreatDoorMac
import Derived.Deep.LoopGhost
import Derived.Deep.RegionHeld3
set_option linter.unusedVariables false
set_option linter.unusedSimpArgs false
set_option maxHeartbeats 40000000
namespace Go.Proofs.YtckbiimikeiejaaGreatDoor
section
open Go.RowKit
def A07 (w:World) (la A B:Nat) (e:Ending) (w':World):Prop :=
 ∃ vq q vr r,e=.returned (.tuple #[vq,vr])∧Nums w' vq q∧Nums w' vr r∧val 4294967296 q=A/B∧val 4294967296 r=A % B∧q.length≤la∧r.length≤la+1∧w.grownBy w' none
theorem Zi (w:World) (e:TypeId) (a:Nat) (ha:a<4294967296):Nums (w.alloc (.cells #[.int .u32 (a:Int)] e)) (.slice (some ⟨w.heap.size,0,none⟩) 1 1) [a]:=by
 refine Nums.mk rfl (by simp) (by omega) (fun i hi=>?_) (by simp;omega)
 rw [Ay (Bi w _)]
 match i,hi with
 | 0,_=>rfl
theorem A1w {A B:Nat} (h:(dig 4294967296 A).length<(dig 4294967296 B).length):A<B:=by
 have h1:=(Bz 4294967296 (by omega) A (dig 4294967296 A).length).1 (Nat.le_refl _)
 have h2:=mt (Bz 4294967296 (by omega) B (dig 4294967296 A).length).2 (by omega)
 omega
theorem Sc {A B:Nat} (h:A≤B):(dig 4294967296 A).length≤(dig 4294967296 B).length:=by
 rcases Nat.lt_or_ge (dig 4294967296 B).length (dig 4294967296 A).length with h2 | h2
 ·have:=A1w h2;omega
 ·exact h2
theorem L4 (w:World) (v1 v2:Value) (A B:Nat) (ha:Nums w v1 (dig 4294967296 A)) (hb:Nums w v2 (dig 4294967296 B)) (hl:(dig 4294967296 A).length≤1099511627776) (hB:0<B) :
  Calls Tryz.prog 172 #[v1,v2] w fun e w'=>A07 w (dig 4294967296 A).length A B e w':=by
 have hva:val 4294967296 (dig 4294967296 A)=A:=Ck _ (by omega) _
 have hvb:val 4294967296 (dig 4294967296 B)=B:=Ck _ (by omega) _
 have hc0:=Jj w v1 v2 _ _ ha hb
 rw [Kx] at hc0
 have hne:=Pe 4294967296 (by omega) B
 have hlen0:=Fa 4294967296 (by omega) B
 by_cases hlt:A<B
 ·rw [show cmpN A B = -1 from if_pos hlt] at hc0
  have HC:=Ac hc0
  clear hc0
  go_enter Tryz.func172,Tryz.ntmps172
  go_wp2_with fail
  refine HC.out.mono ?_
  rintro e w' ⟨rfl,m,rfl⟩
  go_wp2
  go_ret2
  exact ⟨_,[],_,_,rfl,Nums.nil _,ha.more (Az w m _),by rw [Nat.div_eq_of_lt hlt];rfl,by rw [hva,Nat.mod_eq_of_lt hlt],by simp,by omega,Az w m _⟩
 ·have hcv:0≤cmpN A B:=by unfold cmpN;rw [if_neg hlt];split<;>omega
  generalize cmpN A B=cv at *
  have HC:=Ac hc0
  clear hc0
  have hll:(dig 4294967296 B).length≤(dig 4294967296 A).length:=Sc (by omega)
  by_cases h1:(dig 4294967296 B).length=1
  ·obtain ⟨d,hd⟩:∃ d,dig 4294967296 B=[d]:=List.length_eq_one_iff.1 h1
   have hdB:d=B:=by rw [hd] at hvb;simpa [val] using hvb
   subst hdB
   rw [hd] at hb
   have hdl:=hb.2 d (by simp)
   obtain ⟨Ad,c,rfl,k1,k2,hr⟩:=hb.read
   obtain ⟨b,o,rfl,hcell⟩:=hr (by simp)
   have c0:=hcell 0 (by simp)
   simp only [List.getElem?_cons_zero,Option.getD_some,Nat.add_zero,List.length_singleton] at c0 k1
   have hs:=fun m=>Tg (w.drewN m) v1 (dig 4294967296 A) d (ha.more (Az w m _)) hl hB hdl
   have HS:=Ac hs
   have HV:=Ac hva
   clear hs hva hvb hcell hr hd h1 hlen0 hne hll
   simp only [List.length_singleton] at HC ⊢
   go_enter Tryz.func172,Tryz.ntmps172
   go_wp2_with fail
   refine HC.out.mono ?_
   rintro e w' ⟨rfl,m,rfl⟩
   go_wp2_with fail
   refine (HS.out m).mono ?_
   rintro e w2 ⟨vq,q,rfl,hq,hqv,hql,hg⟩
   rw [HV.out] at hqv ⊢
   have hmod:A % d<4294967296:=Nat.lt_trans (Nat.mod_lt _ hB) hdl
   have HM:Hid (val 4294967296 [A % d]=A % d):=by simp [Hid,val]
   generalize hmm:A % d=md at *
   have HMM:=Ac hmm
   clear hmm
   go_wp2
   go_ret2
   exact ⟨_,q,_,[md],rfl,hq.more (Af _ _ _),Zi w2 _ md hmod,hqv,by rw [HM.out,HMM.out],by omega,by simp,Ae (Az w m _) (Ae hg (Af _ _ _))⟩
  ·obtain ⟨m,hm⟩:∃ m,(dig 4294967296 B).length=m+2:=⟨(dig 4294967296 B).length-2,by omega⟩
   obtain ⟨Ad,c,rfl,k1,k2,_⟩:=hb.read
   have hs:=fun k=>Ul (w.drewN k) v1 _ m (dig 4294967296 A) (dig 4294967296 B) (ha.more (Az w k _)) (hb.more (Az w k _)) hm hl (by omega) hne
   have HS:=Ac hs
   have HV:=Ac hva
   have HVB:=Ac hvb
   have t:(((dig 4294967296 B).length:Int)==1)=false:=by simp;omega
   generalize (dig 4294967296 B).length=n at *
   clear hs hva hvb hlen0 hne h1 hm
   go_enter Tryz.func172,Tryz.ntmps172
   go_wp2_with fail
   refine HC.out.mono ?_
   rintro e w' ⟨rfl,k,rfl⟩
   go_wp2_with fail
   refine (HS.out k).mono ?_
   rintro e w2 ⟨vq,q,vr,r,rfl,hq,hr,hqv,hrv,hql,hrl,hg⟩
   rw [HV.out,HVB.out] at hqv hrv
   go_wp2
   go_ret2
   exact ⟨vq,q,vr,r,rfl,hq,hr,hqv,hrv,hql,by omega,Ae (Az w k _) hg⟩
/-! ### QuoRem, Quo -/
theorem A0z (x y:Int):sg (decide (x<0) != decide (y<0)) (x.natAbs/y.natAbs)=x.tdiv y:=by
 unfold sg
 rcases Int.natAbs_eq x with hx | hx<;>rcases Int.natAbs_eq y with hy | hy<;>generalize x.natAbs=a at * <;> generalize y.natAbs=b at * <;> subst hx hy
 ·have h1:decide ((a:Int)<0)=false:=by simp
  have h2:decide ((b:Int)<0)=false:=by simp
  rw [h1,h2];simp
 ·rcases Nat.eq_zero_or_pos b with h | h
  ·subst h;simp
  ·have h1:decide ((a:Int)<0)=false:=by simp
   have h2:decide (-(b:Int)<0)=true:=by simp;omega
   rw [h1,h2];simp [Int.tdiv_neg]
 ·rcases Nat.eq_zero_or_pos a with h | h
  ·subst h;simp
  ·have h1:decide (-(a:Int)<0)=true:=by simp;omega
   have h2:decide ((b:Int)<0)=false:=by simp
   rw [h1,h2];simp [Int.neg_tdiv]
 ·rcases Nat.eq_zero_or_pos b with h | h
  ·subst h;simp
  ·rcases Nat.eq_zero_or_pos a with h' | h'
   ·subst h';simp
   ·have h1:decide (-(a:Int)<0)=true:=by simp;omega
    have h2:decide (-(b:Int)<0)=true:=by simp;omega
    rw [h1,h2];simp [Int.neg_tdiv,Int.tdiv_neg]
theorem A10 (x y:Int):sg (decide (x<0)) (x.natAbs % y.natAbs)=x.tmod y:=by
 unfold sg
 rcases Int.natAbs_eq x with hx | hx<;>rcases Int.natAbs_eq y with hy | hy<;>generalize x.natAbs=a at * <;> generalize y.natAbs=b at * <;> subst hx hy
 ·have h1:decide ((a:Int)<0)=false:=by simp
  rw [h1];simp [Int.tmod_eq_emod_of_nonneg]
 ·have h1:decide ((a:Int)<0)=false:=by simp
  rw [h1];simp [Int.tmod_eq_emod_of_nonneg]
 ·rcases Nat.eq_zero_or_pos a with h | h
  ·subst h;simp
  ·have h1:decide (-(a:Int)<0)=true:=by simp;omega
   rw [h1];simp [Int.neg_tmod,Int.tmod_eq_emod_of_nonneg]
 ·rcases Nat.eq_zero_or_pos a with h | h
  ·subst h;simp
  ·have h1:decide (-(a:Int)<0)=true:=by simp;omega
   rw [h1];simp [Int.neg_tmod,Int.tmod_eq_emod_of_nonneg]
set_option maxRecDepth 100000 in
theorem Kq (w:World) (bz bx ox by' oy br:Nat) (z x y r0:Int) (hz:IntB w bz z) (hx:IntAt w bx ox x) (hy:IntAt w by' oy y) (hr:IntB w br r0) (hne:bz≠br) (lx:lim x≤1099511627776) (hy0:y≠0) :
  Calls Tryz.prog 260 #[.pointer (some ⟨bz,0,none⟩),.pointer (some ⟨bx,ox,none⟩),.pointer (some ⟨by',oy,none⟩),.pointer (some ⟨br,0,none⟩)] w fun e w'=>e=.returned (.tuple #[.pointer (some ⟨bz,0,none⟩),.pointer (some ⟨br,0,none⟩)])∧
   IntB w' bz (x.tdiv y)∧IntB w' br (x.tmod y)∧∃ w1,w.grownBy w1 (some br)∧w1.grownBy w' (some bz):=by
 obtain ⟨vx,c0,c1,hnx⟩:=hx
 obtain ⟨vy,d0,d1,hny⟩:=hy
 have HQ:=Ac (A0z x y)
 have HR:=Ac (A10 x y)
 have hyp:0<y.natAbs:=by omega
 generalize hnx':decide (x<0)=nx at *
 generalize hny':decide (y<0)=ny at *
 clear hnx' hny' hy0
 go_enter Tryz.func260,Tryz.ntmps260
 go_wp2
 go_region_held3 (fun w'=>w'.cell? ⟨bx,ox+1,none⟩=some vx∧w'.cell? ⟨by',oy+1,none⟩=some vy) (first | go_keep | exact ⟨Aj (B4 hg) c1 (by simp),Aj (B4 hg) d1 (by simp)⟩)
  ((go_at_call 172;refine (L4 _ vx vy x.natAbs y.natAbs hnx.drew hny.drew lx hyp).mono ?_;rintro e w1 ⟨vq,q,vr,r,rfl,hq,hrr,hqv,hrv,hql,hrl,hg⟩))
 have c2:=Aj (B4 hg) c0 (by simp)
 have d2:=Aj (B4 hg) d0 (by simp)
 go_wp2
 go_quiet (fail)
 have hgw:=Ae (B4 hg) (Az w1 nq none)
 have hz2:=hz.more hgw
 have hr2:=hr.more hgw
 have hn2:=hrr.more (Az w1 nq none)
 have hq2:=hq.more (Az w1 nq none)
 have c3:=Aj (Az w1 nq none) c2 (by simp)
 generalize w1.drewN nq=wn at *
 go_wp2_with fail
 refine (Eh _ br r0 nx vr r hr2 hn2).mono ?_
 rintro e w3 ⟨rfl,hi3,hg3⟩
 have hz3:=hz2.other hg3 hr2.plain hne
 have hq3:=hq2.other hg3 hr2.plain
 go_wp2_with fail
 refine (Eh _ bz z (nx != ny) vq q hz3 hq3).mono ?_
 rintro e w4 ⟨rfl,hi4,hg4⟩
 go_wp2
 go_ret2
 rw [hrv,HR.out] at hi3
 rw [hqv,HQ.out] at hi4
 exact ⟨rfl,hi4,hi3.other hg4 hz3.plain (Ne.symm hne),w3,Ae (C0 hgw) hg3,hg4⟩
theorem IntB.new (w:World) (T:TypeId):IntB (w.alloc (.cells #[.bool false,.slice none 0 0] T)) w.heap.size 0 :=
 ⟨_,T,Bi _ _,Nums.nil _⟩
theorem Gf (w:World) (bz bx ox by' oy:Nat) (z x y:Int) (hz:IntB w bz z) (hx:IntAt w bx ox x) (hy:IntAt w by' oy y) (lx:lim x≤1099511627776) (hy0:y≠0) :
  Calls Tryz.prog 221 #[.pointer (some ⟨bz,0,none⟩),.pointer (some ⟨bx,ox,none⟩),.pointer (some ⟨by',oy,none⟩)] w fun e w'=>e=.returned (.pointer (some ⟨bz,0,none⟩))∧IntB w' bz (x.tdiv y)∧w.grownBy w' (some bz):=by
 have hQ:=Kq (w.alloc (.cells #[.bool false,.slice none 0 0] 158)) bz bx ox by' oy w.heap.size z x y 0 (hz.more (Af _ _ _)) (hx.more (Af _ _ _)) (hy.more (Af _ _ _)) (IntB.new w _) (Nat.ne_of_lt hz.lt) lx hy0
 have HQ:=Ac hQ
 clear hQ
 go_enter Tryz.func221,Tryz.ntmps221
 go_wp2_with fail
 refine HQ.out.mono ?_
 rintro e w2 ⟨rfl,hi,_,w1,hg1,hg2⟩
 go_wp2
 go_ret
 exact ⟨rfl,hi,Ae (C0 (Aw (Af _ _ none) hg1 (Nat.le_refl _))) hg2⟩
/-! ### Gcd -/
theorem Ll (w:World) (bx ox by' oy:Nat) (x y:Int) (hx:IntAt w bx ox x) (hy:IntAt w by' oy y) (lx:lim x≤549755813888) (ly:lim y≤549755813888) :
  Calls Tryz.prog 89 #[.pointer (some ⟨bx,ox,none⟩),.pointer (some ⟨by',oy,none⟩)] w fun e w'=>∃ b,e=.returned (.pointer (some ⟨b,0,none⟩))∧IntB w' b (Nat.gcd x.natAbs y.natAbs)∧w.heap.size≤b∧w.grownBy w' none:=by
 obtain ⟨vx,c0,c1,hnx⟩:=hx
 obtain ⟨vy,d0,d1,hny⟩:=hy
 go_enter Tryz.func89,Tryz.ntmps89
 go_wp2
 go_quiet (fail)
 go_wp2
 go_loopg [5,6] y.natAbs (fun k va vb wr=>∃ A B:Nat,k=B∧Nums wr va (dig 4294967296 A)∧Nums wr vb (dig 4294967296 B)∧Hid (Nat.gcd A B=Nat.gcd x.natAbs y.natAbs)∧w.grownBy wr none∧(dig 4294967296 A).length≤549755813888∧(dig 4294967296 B).length≤549755813888)
 case atStart=>exact ⟨x.natAbs,y.natAbs,rfl,hnx.more (Az _ _ _),hny.more (Az _ _ _),rfl,Az _ _ _,lx,ly⟩
 case round =>
  obtain ⟨A,B,hgk,ha,hb,hgcd,hg,la,lb⟩:=hrel
  have HGK:=Ac hgk
  clear hgk
  obtain ⟨Ab,cb,rfl,k1,k2,_⟩:=hb.read
  by_cases hB:B=0
  ·subst hB
   rw [Dw] at hb ⊢
   obtain ⟨Aa,ca,rfl,_,_,_⟩:=ha.read
   have hs:=fun w' hi hn=>Eh w' wr.heap.size 0 false (.slice Aa (dig 4294967296 A).length ca) (dig 4294967296 A) hi hn
   have HS:=Ac hs
   clear hs k1 hnx hny c0 c1 d0 d1
   simp only [List.length_nil]
   go_wp2_with fail
   refine (HS.out _ (IntB.new wr _) (ha.more (Af _ _ _))).mono ?_
   rintro e w2 ⟨rfl,hi,hg2⟩
   go_wp2
   go_ret
   rw [Ck _ (by omega)] at hi
   have:=hgcd.out
   rw [Nat.gcd_zero_right] at this
   rw [this] at hi
   exact ⟨_,rfl,hi,hg.size,Ae hg (Aw (Af _ _ _) hg2 (Nat.le_refl _))⟩
  ·have hlen:0<(dig 4294967296 B).length:=by have:=Fa 4294967296 (by omega) B;omega
   have hdv:=L4 wr _ _ A B ha hb (by omega) (by omega)
   have HD:=Ac hdv
   clear hdv hnx hny c0 c1 d0 d1
   go_wp2_with fail
   refine HD.out.mono ?_
   rintro e w1 ⟨vq,q,vr,r,rfl,hq,hr,hqv,hrv,hql,hrl,hg1⟩
   clear HD hq hqv hql
   obtain ⟨Ar,cr,rfl,r1,r2,hread⟩:=hr.read
   go_wp2_with (at_builtin;refine Fq w1.heap.size rfl _ _ 47 56 (.int .u32 0) 1 4 rfl Tryz.underlying47 Fh rfl (by omega) (by omega) _ 0 [] rfl (World.ownsRow_lit w1 #[] 0 (Nat.le_refl _) (by decide) rfl) Ar r.length cr (u32s r) rfl (by simp [u32s]) ?c1 hr.addr (by simp [u32s,Value.oneCell']) (by omega) (by simp) ?_)
   case c1 =>
    intro hp
    obtain ⟨b,o,rfl,hc⟩:=hread hp
    refine ⟨b,o,rfl,fun j hj=>?_⟩
    rw [Hd _ _ (by omega)]
    exact Aj (Af w1 _ none) (hc j (by omega)) (by simp)
   intro v1 w2 hown hg2 _
   have hn:Nums w2 v1 r:=⟨E5 hown,hr.2⟩
   have hgg:w1.grownBy w2 none:=Aw (Af w1 _ none) hg2 (Nat.le_refl _)
   clear hown hg2 hread
   go_wp2_with fail
   refine (Hc _ _ _ hn).mono ?_
   rintro e w3 ⟨v',rfl,hv,rfl⟩
   rw [hrv] at hv
   have hlt:A % B<B:=Nat.mod_lt _ (by omega)
   have hlm:=Sc (Nat.le_of_lt hlt)
   have hgB:=(hb.more hg1).more hgg
   have hG:=hgcd.out
   have HG:Hid (Nat.gcd B (A % B)=Nat.gcd x.natAbs y.natAbs):=Ac (by rw [←hG,Nat.gcd_comm B,←Nat.gcd_rec,Nat.gcd_comm])
   have HLT:=Ac hlt
   clear hn hrv hG hgcd hlt
   go_wp2
   go_roundg (A % B)
   case measure=>rw [HGK.out];exact HLT.out
   case rel=>exact ⟨B,A % B,rfl,hgB,hv,HG,Ae hg (Ae hg1 hgg),lb,by omega⟩
/-! ### Cmp -/
theorem Wl (x y:Int):(if decide (x<0)=decide (y<0) then (if x<0 then -cmpN x.natAbs y.natAbs else cmpN x.natAbs y.natAbs) else if x<0 then -1 else 1)=(x-y).sign:=by
 unfold cmpN
 rcases Int.lt_trichotomy x y with h | h | h
 ·rw [Int.sign_eq_neg_one_of_neg (by omega)]
  by_cases h1:x<0<;>by_cases h2:y<0<;>simp [h1,h2]<;>(try omega)
 ·subst h;simp
 ·rw [Int.sign_eq_one_of_pos (by omega)]
  by_cases h1:x<0<;>by_cases h2:y<0<;>simp [h1,h2]<;>(try omega)
theorem P8 (w:World) (bx ox by' oy:Nat) (x y:Int) (hx:IntAt w bx ox x) (hy:IntAt w by' oy y) :
  Calls Tryz.prog 196 #[.pointer (some ⟨bx,ox,none⟩),.pointer (some ⟨by',oy,none⟩)] w fun e w'=>e=.returned (.int .i64 (x-y).sign)∧∃ n,w'=w.drewN n:=by
 obtain ⟨vx,c0,c1,hnx⟩:=hx
 obtain ⟨vy,d0,d1,hny⟩:=hy
 have hcb:-1≤cmpN x.natAbs y.natAbs∧cmpN x.natAbs y.natAbs≤1:=by unfold cmpN;split<;>(try split)<;>omega
 have HS:=Ac (Wl x y)
 have HC:∀ m,Hid (Calls Tryz.prog 231 #[vx,vy] (w.drewN m) fun e w'=>e=.returned (.int .i64 (cmpN x.natAbs y.natAbs))∧∃ n,w'=(w.drewN m).drewN n):=by
  intro m
  have:=Jj (w.drewN m) vx vy _ _ (hnx.more (Az w m _)) (hny.more (Az w m _))
  unfold digs at this
  rwa [Kx] at this
 clear hnx hny
 by_cases hxn:x<0<;>by_cases hyn:y<0
 all_goals
  simp only [hxn,hyn,decide_true,decide_false,if_true,if_false,Bool.true_eq_false,Bool.false_eq_true] at c0 d0 HS
  generalize cmpN x.natAbs y.natAbs=cv at *
  clear hxn hyn
  go_enter Tryz.func196,Tryz.ntmps196
  go_wp2
  go_quiet (fail)
 ·go_wp2
  go_region_with (go_at_call 231;refine (HC (nq+1)).out.mono ?_;rintro e w1 ⟨rfl,n1,rfl⟩)
  all_goals
   go_wp2
   go_ret
   exact ⟨B9 HS.out,_,rfl⟩
 ·go_wp2
  go_ret
  exact ⟨B9 HS.out,_,rfl⟩
 ·go_wp2
  go_ret
  exact ⟨B9 HS.out,_,rfl⟩
 ·go_wp2
  go_region_with (go_at_call 231;refine (HC (nq+1)).out.mono ?_;rintro e w1 ⟨rfl,n1,rfl⟩)
  all_goals
   go_wp2
   go_ret
   exact ⟨B9 HS.out,_,rfl⟩
end
end Go.Proofs.YtckbiimikeiejaaGreatDoor
