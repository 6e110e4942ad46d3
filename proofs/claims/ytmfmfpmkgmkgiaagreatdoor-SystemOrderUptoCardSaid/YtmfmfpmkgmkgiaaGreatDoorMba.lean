/- RefU RefV RefW RefX Step. -/
import Derived.Test.YtmfmfpmkgmkgiaaGreatDoorMaz
import Derived.Deep.RegionLaw
import Derived.Deep.LoopGhost
import Derived.Deep.DrawnRows
import Derived.Test.YtmfmfpmkgmkgiaaGreatDoorMad
import Derived.Test.YtmfmfpmkgmkgiaaGreatDoorMat
import Derived.Deep.RegionHeld3
import Derived.Test.YtmfmfpmkgmkgiaaGreatDoorMaf
import Derived.Test.YtmfmfpmkgmkgiaaGreatDoorMak
set_option linter.unusedVariables false
set_option linter.unusedSimpArgs false
set_option maxHeartbeats 40000000
namespace Go.Proofs.YtmfmfpmkgmkgiaaGreatDoor
section
open Go.RowKit Go.Maps
open Rat
def NB (w:World) (b:Nat) (z:Int):Prop:=∃ A c,Blk w b #[.bool (decide (z<0)),.slice A (d16 z).length c]∧D16 w (.slice A (d16 z).length c) (d16 z)
theorem NB.nz {w:World} {b:Nat} {z:Int} (h:NB w b z):∃ A c,Blk w b #[.bool (decide (z<0)),.slice A (d16 z).length c]∧NZ w (.agg #[.bool (decide (z<0)),.slice A (d16 z).length c]) z∧D16 w (.slice A (d16 z).length c) (d16 z):=by
 obtain ⟨A,c,h1,h2⟩:=h
 exact ⟨A,c,h1,⟨_,rfl,h2⟩,h2⟩
theorem NB.more {w w':World} {b:Nat} {z:Int} (h:NB w b z) (hg:w.grownBy w' none):NB w' b z:=by
 obtain ⟨A,c,h1,h2⟩:=h
 exact ⟨A,c,h1.more hg,h2.more hg⟩
theorem NZ.form {w:World} {nv:Value} {z:Int} (h:NZ w nv z):∃ A c,nv=.agg #[.bool (decide (z<0)),.slice A (d16 z).length c]∧D16 w (.slice A (d16 z).length c) (d16 z):=by
 obtain ⟨v,rfl,h⟩:=h
 obtain ⟨A,c,rfl,_⟩:=h.ctor
 exact ⟨A,c,rfl,h⟩
theorem Ym {x y:Int} (h:x.natAbs≤y.natAbs):(d16 x).length≤(d16 y).length:=J2 h
theorem Z0 (a b:Nat):Nat.gcd b (a % b)=Nat.gcd a b:=by rw [Nat.gcd_comm b (a % b),←Nat.gcd_rec,Nat.gcd_comm]
theorem Xz {w:World} {p q r:Nat} {cs:Array Value} (h:Blk w r cs) (hp:r≠p) (hq:r≠q) (a b u v:Value):Blk ((((w.setCell ⟨p,0,none⟩ a).setCell ⟨p,1,none⟩ b).setCell ⟨q,0,none⟩ u).setCell ⟨q,1,none⟩ v) r cs :=
 ((((h.other (Au _ p 0 a) hp).other (Au _ p 1 b) hp).other (Au _ q 0 u) hq).other (Au _ q 1 v) hq)
set_option maxRecDepth 100000 in
theorem Ju (w:World) (v1 v2:Value) (x y:Int) (hx:NZ w v1 x) (hy:NZ w v2 y) (lx:(d16 x).length≤1099511627775) (ly:(d16 y).length≤1099511627775) :
  Calls Tryz.prog 140 #[v1,v2] w fun e w'=>∃ nv,e=.returned nv∧NZ w' nv (Nat.gcd x.natAbs y.natAbs:Int)∧w.grownBy w' none:=by
 obtain ⟨A1,c1,rfl,hdx⟩:=hx.form
 obtain ⟨A2,c2,rfl,hdy⟩:=hy.form
 have g1:=Af w (.cells #[.bool (decide (x<0)),.slice A1 (d16 x).length c1] 122) none
 have g2:=Af (w.alloc (.cells #[.bool (decide (x<0)),.slice A1 (d16 x).length c1] 122)) (.cells #[.bool (decide (y<0)),.slice A2 (d16 y).length c2] 122) none
 have g3:=Af ((w.alloc (.cells #[.bool (decide (x<0)),.slice A1 (d16 x).length c1] 122)).alloc (.cells #[.bool (decide (y<0)),.slice A2 (d16 y).length c2] 122)) (.cells #[.bool false,.slice none 0 0] 122) none
 have hB1:=(Blk.new w #[.bool (decide (x<0)),.slice A1 (d16 x).length c1] 122).more (Ae g2 g3)
 have hB2:=(Blk.new (w.alloc (.cells #[.bool (decide (x<0)),.slice A1 (d16 x).length c1] 122)) #[.bool (decide (y<0)),.slice A2 (d16 y).length c2] 122).more g3
 have hB3:=Blk.new ((w.alloc (.cells #[.bool (decide (x<0)),.slice A1 (d16 x).length c1] 122)).alloc (.cells #[.bool (decide (y<0)),.slice A2 (d16 y).length c2] 122)) #[.bool false,.slice none 0 0] 122
 have hsz:(((w.alloc (.cells #[.bool (decide (x<0)),.slice A1 (d16 x).length c1] 122)).alloc (.cells #[.bool (decide (y<0)),.slice A2 (d16 y).length c2] 122)).alloc (.cells #[.bool false,.slice none 0 0] 122)).heap.size=w.heap.size+3:=by simp
 rw [World.size_alloc] at hB2 hB3
 rw [World.size_alloc] at hB3
 have HGW:=Ac (Ae g1 (Ae g2 g3))
 have HX:=Ac (hx.more HGW.out)
 have HY:=Ac (hy.more HGW.out)
 have HB1:=Ac hB1
 have HB2:=Ac hB2
 have HB3:=Ac hB3
 have HSZ:=Ac hsz
 have HLX:Hid ((d16 (x.natAbs:Int)).length≤1099511627775):=Ac (by unfold d16 at *;rw [Int.natAbs_natCast];exact lx)
 have HLY:Hid ((d16 (y.natAbs:Int)).length≤1099511627775):=Ac (by unfold d16 at *;rw [Int.natAbs_natCast];exact ly)
 obtain ⟨x0,x1,fx0,fx1⟩:=hB1.two
 obtain ⟨y0,y1,fy0,fy1⟩:=hB2.two
 clear hx hy hdx hdy lx ly g1 g2 g3 hB1 hB2 hB3 hsz
 go_enter Tryz.func140,Tryz.ntmps140
 go_upto_region 1 with (fail)
 generalize ((w.alloc (.cells #[.bool (decide (x<0)),.slice A1 (d16 x).length c1] 122)).alloc (.cells #[.bool (decide (y<0)),.slice A2 (d16 y).length c2] 122)).alloc (.cells #[.bool false,.slice none 0 0] 122)=wa at *
 generalize hs:w.heap.size=s at *
 have HS:=Ac hs
 clear hs
 have hne:s≠s+1:=by omega
 have HENT:=Ac (show ∀ args w,(callFunc 197 args).run Tryz.prog w=.ok (.enter 197 args) w from enters_of Tryz.func197 (by kernel_rfl) rfl)
 have habs:∀ W v z,wa.grownBy W none→NZ W v z→Calls Tryz.prog 197 #[v] W fun e w'=>∃ v',e=.returned v'∧(∃ A c,v'=.agg #[.bool (decide ((z.natAbs:Int)<0)),.slice A (d16 (z.natAbs:Int)).length c]∧D16 w' (.slice A (d16 (z.natAbs:Int)).length c) (d16 (z.natAbs:Int))∧wa.grownBy w' none∧W.grownBy w' none):=fun W v z hW hz=>(Tw W v z hz).mono fun e w' ⟨v',e1,e2,e3⟩=>by
  obtain ⟨A,c,rfl,hd⟩:=e2.form
  exact ⟨_,e1,A,c,rfl,hd,Ae hW e3,e3⟩
 have HABS:=Ac habs
 have HCW:=Ac (fun W (h:wa.grownBy W none)=>(⟨Aj h x0 (by simp),Aj h x1 (by simp),Aj h y0 (by simp),Aj h y1 (by simp)⟩:W.cell? ⟨s,0,none⟩=some (.bool (decide (x<0)))∧W.cell? ⟨s,1,none⟩=some (.slice A1 (d16 x).length c1)∧W.cell? ⟨s+1,0,none⟩=some (.bool (decide (y<0)))∧W.cell? ⟨s+1,1,none⟩=some (.slice A2 (d16 y).length c2)))
 clear habs
 go_cut [] (fun wx=>w.grownBy wx none∧Hid (NB wx s (x.natAbs:Int)∧NB wx (s+1) (y.natAbs:Int)∧Blk wx (s+1+1) #[.bool false,.slice none 0 0]))
 case first =>
  go_region_law (first
   | (refine Fo (by rfl) 197 (.tmp 7) _ (by rfl) (.agg #[.bool (decide (x<0)),.slice A1 (d16 x).length c1]) (by rfl) HENT.out _ (HABS.out _ _ x (by (focus ((repeat (first | assumption | exact Al _ _ | exact Ai _ _ | exact Af _ _ _ | refine Ae ?_ (Af _ _ _) | refine Ae ?_ (Ai _ _) | refine Ae ?_ (by assumption)));done))) (HX.out.more (by (focus ((repeat (first | assumption | exact Al _ _ | exact Ai _ _ | exact Af _ _ _ | refine Ae ?_ (Af _ _ _) | refine Ae ?_ (Ai _ _) | refine Ae ?_ (by assumption)));done))))) ?_;rintro v5 w5 ⟨A5,c5,rfl,hd5,hg5,hk5⟩;obtain ⟨x0,x1,fx0,fx1⟩:=(HB1.out.more hg5).two;obtain ⟨y0,y1,fy0,fy1⟩:=(HB2.out.more hg5).two)
   | (refine Fo (by rfl) 197 (.tmp 9) _ (by rfl) (.agg #[.bool (decide (y<0)),.slice A2 (d16 y).length c2]) (by rfl) HENT.out _ (HABS.out _ _ y (by (focus ((repeat (first | assumption | exact Al _ _ | exact Ai _ _ | exact Af _ _ _ | refine Ae ?_ (Af _ _ _) | refine Ae ?_ (Ai _ _) | refine Ae ?_ (by assumption)));done))) (HY.out.more (by (focus ((repeat (first | assumption | exact Al _ _ | exact Ai _ _ | exact Af _ _ _ | refine Ae ?_ (Af _ _ _) | refine Ae ?_ (Ai _ _) | refine Ae ?_ (by assumption)));done))))) ?_;rintro v6 w6 ⟨A6,c6,rfl,hd6,hg6,hk6⟩;have hd5:=hd5.more hk6;obtain ⟨x0,x1,fx0,fx1⟩:=(HB1.out.more hg6).two;obtain ⟨y0,y1,fy0,fy1⟩:=(HB2.out.more hg6).two)
   | (fail))
  all_goals
   go_wp2_with fail
   go_meet
   have e:=Ip hne (HB1.out.more hg6) (HB2.out.more hg6) (decide ((x.natAbs:Int)<0)) (decide ((y.natAbs:Int)<0)) A5 A6 (d16 (x.natAbs:Int)).length c5 (d16 (y.natAbs:Int)).length c6
   exact ⟨e.2.2.2 w (Ae HGW.out hg6) (by have:=HS.out;omega) (by have:=HS.out;omega),Ac ⟨⟨A5,c5,e.1,e.2.2.1 _ _ hd5⟩,⟨A6,c6,e.2.1,e.2.2.1 _ _ hd6⟩,Xz (HB3.out.more hg6) (by omega) (by omega) _ _ _ _⟩⟩
 case rest =>
  obtain ⟨hgw,hfc⟩:=hcut
  have HGC:=Ac hgw
  clear hgw HCW HABS HENT HX HY HB1 HB2 HB3 HGW x0 x1 y0 y1 fx0 fx1 fy0 fy1
  go_wp2_with fail
  go_loopg [5] (y.natAbs) (fun g v5 wr=>w.grownBy wr none∧Hid (∃ a b:Nat,b≤g∧Nat.gcd a b=Nat.gcd x.natAbs y.natAbs∧(d16 (a:Int)).length≤1099511627775∧(d16 (b:Int)).length≤1099511627775∧NB wr s (a:Int)∧NB wr (s+1) (b:Int)∧Blk wr (s+1+1) #[.bool false,.slice none 0 0]))
  case atStart=>exact ⟨HGC.out,Ac ⟨x.natAbs,y.natAbs,Nat.le_refl _,rfl,HLX.out,HLY.out,hfc.out.1,hfc.out.2.1,hfc.out.2.2⟩⟩
  case round =>
   clear HGC hfc
   obtain ⟨hg,hst⟩:=hrel
   obtain ⟨a,b,hbg,hgcd,la,lb,ha,hb,hz⟩:=hst.out
   obtain ⟨Aa,ca,hba,hna,_⟩:=ha.nz
   obtain ⟨Ab,cb,hbb,hnb,hdb⟩:=hb.nz
   have HDB:=Ac hdb
   have HBG:=Ac hbg
   clear hdb hbg
   obtain ⟨x0,x1,fx0,fx1⟩:=hba.two
   obtain ⟨y0,y1,fy0,fy1⟩:=hbb.two
   obtain ⟨z0,z1,fz0,fz1⟩:=hz.two
   have HG:=Ac hg
   have HBA:=Ac hba
   have HBB:=Ac hbb
   have HZ:=Ac hz
   have HGCD:=Ac hgcd
   have HNA:=Ac hna
   have HNB:=Ac hnb
   have HLA:=Ac la
   have HLB:=Ac lb
   have hlb:0<(d16 (b:Int)).length↔b≠0:=J3
   clear hst hg hgcd ha hb hz hna hnb hba hbb la lb
   by_cases hb0:b=0
   ·as_aux_lemma =>
     have t:¬ (0:Int)<((d16 (b:Int)).length:Int):=by omega
     have HGE:Hid ((Nat.gcd x.natAbs y.natAbs:Int)=(a:Int)):=Ac (by rw [←HGCD.out,hb0,Nat.gcd_zero_right])
     clear hlb hb0
     go_wp2_with fail
     obtain ⟨w4,hw4,hB4,hG4⟩:∃ w4,w4=((wr.setCell ⟨s+1+1,0,none⟩ (.bool (decide ((a:Int)<0)))).setCell ⟨s+1+1,1,none⟩ (.slice Aa (d16 (a:Int)).length ca))∧Blk w4 (s+1+1) #[.bool (decide ((a:Int)<0)),.slice Aa (d16 (a:Int)).length ca]∧wr.grownBy w4 (some (s+1+1)):=⟨_,rfl,(HZ.out.set 0 _).set 1 _,Ae (Au _ _ _ _) (Au _ _ _ _)⟩
     try simp only [Exit.inBlock,Exit.then]
     rw [←hw4]
     clear z0 z1 fz0 fz1 hw4
     obtain ⟨z0,z1,_⟩:=hB4.two
     refine bodyPost_ret (v:=.agg #[.bool (decide ((a:Int)<0)),.slice Aa (d16 (a:Int)).length ca]) (by simp [results,Tryz.results140,go_sem,z0,z1]) rfl ⟨_,rfl,?_,Aw HG.out hG4 (by have:=HS.out;omega)⟩
     rw [HGE.out]
     exact HNA.out.keep HZ.out hG4
   ·as_aux_lemma =>
     have t:(0:Int)<((d16 (b:Int)).length:Int):=by omega
     have hbi:(b:Int)≠0:=by omega
     have HDV:=Ac (El wr _ _ (a:Int) (b:Int) HNA.out HNB.out hbi (Nat.le_trans HLA.out (by omega)) HLB.out)
     have HB0:=Ac hb0
     clear hlb hbi hb0
     go_wp2_with fail
     refine HDV.out.mono ?_
     rintro e w2 ⟨qv,rv,rfl,hq,hr,hg2⟩
     have hmod:((a:Int).tmod (b:Int))=((a % b:Nat):Int):=(Int.ofNat_tmod a b).symm
     rw [hmod] at hr
     generalize (a:Int).tdiv (b:Int)=qz at hq
     obtain ⟨m,hm⟩:∃ m,a % b=m:=⟨_,rfl⟩
     rw [hm] at hr
     have HMM:=Ac hm
     clear hm
     obtain ⟨Aq,cq,rfl,hdq⟩:=hq.form
     obtain ⟨Ar,cr,rfl,hdr⟩:=hr.form
     have ga:=Af w2 (.cells #[Value.bool (decide (qz<0)),.slice Aq (d16 qz).length cq] 122) none
     have gb:=Af (w2.alloc (.cells #[Value.bool (decide (qz<0)),.slice Aq (d16 qz).length cq] 122)) (.cells #[.bool (decide ((m:Int)<0)),.slice Ar (d16 (m:Int)).length cr] 122) none
     have hRB:=Blk.new (w2.alloc (.cells #[Value.bool (decide (qz<0)),.slice Aq (d16 qz).length cq] 122)) #[.bool (decide ((m:Int)<0)),.slice Ar (d16 (m:Int)).length cr] 122
     rw [World.size_alloc] at hRB
     have HG3:=Ac (Ae hg2 (Ae ga gb))
     have HRB:=Ac hRB
     have HDR:=Ac (hdr.more (Ae ga gb))
     have hlt2:=HBB.out.lt
     have hge:=hg2.size
     have HRN:Hid (w2.heap.size+1≠s∧w2.heap.size+1≠s+1):=Ac (by omega)
     clear hq hr hdq hdr hmod hg2 ga gb hRB x0 x1 y0 y1 fx0 fx1 fy0 fy1 z0 z1 fz0 fz1 t HDV hlt2 hge
     go_upto_region 4 with (fail)
     generalize (w2.alloc (.cells #[Value.bool (decide (qz<0)),.slice Aq (d16 qz).length cq] 122)).alloc (.cells #[.bool (decide ((m:Int)<0)),.slice Ar (d16 (m:Int)).length cr] 122)=w3 at *
     generalize w2.heap.size+1=rb at *
     have hbb:=HBB.out.more HG3.out
     have hba:=HBA.out.more HG3.out
     obtain ⟨x0,x1,fx0,fx1⟩:=hba.two
     obtain ⟨y0,y1,fy0,fy1⟩:=hbb.two
     obtain ⟨v0,v1,_⟩:=HRB.out.two
     have hn1:=HRN.out.1
     have hn2:=HRN.out.2
     clear hba hbb
     go_region_law (fail)
     all_goals
      go_wp2_with fail
      have hmb:m<b:=by rw [←HMM.out];exact Nat.mod_lt _ (by have:=HB0.out;omega)
      have hbg:=HBG.out
      go_roundg m
      case measure=>omega
      case rel =>
       have e:=Ip hne (HBA.out.more HG3.out) (HBB.out.more HG3.out) (decide ((b:Int)<0)) (decide ((m:Int)<0)) Ab Ar (d16 (b:Int)).length cb (d16 (m:Int)).length cr
       refine ⟨Ae (e.2.2.2 w (Ae HG.out HG3.out) (by have:=HS.out;omega) (by have:=HS.out;omega)) (Ai _ _),Ac ⟨b,m,Nat.le_refl _,?_,HLB.out,?_,⟨Ab,cb,e.1.more (Ai _ _),(e.2.2.1 _ _ (HDB.out.more HG3.out)).more (Ai _ _)⟩,⟨Ar,cr,e.2.1.more (Ai _ _),(e.2.2.1 _ _ HDR.out).more (Ai _ _)⟩,(Xz (HZ.out.more HG3.out) (by omega) (by omega) _ _ _ _).more (Ai _ _)⟩⟩
       ·rw [←HMM.out,Z0];exact HGCD.out
       ·exact Nat.le_trans (J2 (Nat.le_of_lt hmb)) HLB.out
end
section
open Go.RowKit Go.Maps
open Rat
def FQ (w:World) (v:Value) (q:Rat):Prop:=∃ A c A' c',v=.agg #[.bool (decide (q.num<0)),.slice A (d16 q.num).length c,.bool false,.slice A' (d16 (q.den:Int)).length c']∧D16 w (.slice A (d16 q.num).length c) (d16 q.num)∧D16 w (.slice A' (d16 (q.den:Int)).length c') (d16 (q.den:Int))
theorem FQ.more {w w':World} {v:Value} {q:Rat} (h:FQ w v q) (hg:w.grownBy w' none):FQ w' v q:=by
 obtain ⟨A,c,A',c',e,h1,h2⟩:=h
 exact ⟨A,c,A',c',e,h1.more hg,h2.more hg⟩
theorem Z4 {n d:Int} (h:0<d):gs n d=(Nat.gcd n.natAbs d.natAbs:Int):=by
 unfold gs
 rw [if_neg (by omega)]
theorem Sm (x y:Int):(-x) /. (-y)=x /. y:=Rat.neg_divInt_neg x y
theorem Vp {x y:Int} (hy:0<y):0<Nat.gcd x.natAbs y.natAbs∧(d16 (Nat.gcd x.natAbs y.natAbs:Int)).length≤(d16 y).length:=by
 have h1:0<y.natAbs:=by omega
 refine ⟨Nat.gcd_pos_of_pos_right _ h1,?_⟩
 unfold d16
 rw [Int.natAbs_natCast]
 exact J2 (Nat.gcd_le_right _ h1)
set_option maxRecDepth 100000 in
theorem Ow (w:World) (v1 v2:Value) (x y:Int) (hx:NZ w v1 x) (hy:NZ w v2 y) (h0:y≠0) (lx:(d16 x).length≤1099511627775) (ly:(d16 y).length≤1099511627775) :
    Calls Tryz.prog 83 #[v1,v2] w fun e w'=>∃ v,e=.returned v∧FQ w' v (x /. y)∧w.grownBy w' none:=by
  obtain ⟨A1,c1,rfl,hdx⟩:=hx.form
  obtain ⟨A2,c2,rfl,hdy⟩:=hy.form
  have g1:=Af w (.cells #[.bool (decide (x<0)),.slice A1 (d16 x).length c1] 122) none
  have g2:=Af (w.alloc (.cells #[.bool (decide (x<0)),.slice A1 (d16 x).length c1] 122)) (.cells #[.bool (decide (y<0)),.slice A2 (d16 y).length c2] 122) none
  have g3:=Af ((w.alloc (.cells #[.bool (decide (x<0)),.slice A1 (d16 x).length c1] 122)).alloc (.cells #[.bool (decide (y<0)),.slice A2 (d16 y).length c2] 122)) (.cells #[.bool false,.slice none 0 0,.bool false,.slice none 0 0] 126) none
  have hB1:=(Blk.new w #[.bool (decide (x<0)),.slice A1 (d16 x).length c1] 122).more (Ae g2 g3)
  have hB2:=(Blk.new (w.alloc (.cells #[.bool (decide (x<0)),.slice A1 (d16 x).length c1] 122)) #[.bool (decide (y<0)),.slice A2 (d16 y).length c2] 122).more g3
  have hB3:=Blk.new ((w.alloc (.cells #[.bool (decide (x<0)),.slice A1 (d16 x).length c1] 122)).alloc (.cells #[.bool (decide (y<0)),.slice A2 (d16 y).length c2] 122)) #[.bool false,.slice none 0 0,.bool false,.slice none 0 0] 126
  rw [World.size_alloc] at hB2 hB3
  rw [World.size_alloc] at hB3
  have HGW:=Ac (Ae g1 (Ae g2 g3))
  have HNX:=Ac (hx.more HGW.out)
  have HNY:=Ac (hy.more HGW.out)
  have HBX:=Ac hB1
  have HBY:=Ac hB2
  have HBZ:=Ac hB3
  have HLX:=Ac lx
  have HLY:=Ac ly
  have HSG:=Ac (Mc (((w.alloc (.cells #[.bool (decide (x<0)),.slice A1 (d16 x).length c1] 122)).alloc (.cells #[.bool (decide (y<0)),.slice A2 (d16 y).length c2] 122)).alloc (.cells #[.bool false,.slice none 0 0,.bool false,.slice none 0 0] 126)) _ y HNY.out)
  obtain ⟨y0,y1,fy0,fy1⟩:=hB2.two
  clear hx hy hdx hdy lx ly g1 g2 g3 hB1 hB2 hB3
  by_cases hy0:y<0
  · obtain ⟨X,hX⟩:∃ X,-x=X:=⟨_,rfl⟩
    obtain ⟨Y,hY⟩:∃ Y,-y=Y:=⟨_,rfl⟩
    have HXE:=Ac hX
    have HYE:=Ac hY
    have HY0:Hid (0<Y):=Ac (by omega)
    obtain ⟨Q,hQ⟩:∃ Q,x /. y=Q:=⟨_,rfl⟩
    rw [hQ]
    have HQQ:Hid (X /. Y=Q):=Ac (by rw [←hQ,←hX,←hY];exact Sm x y)
    have hsv:(if y=0 then (0:Int) else if y<0 then -1 else 1) = -1:=by rw [if_neg h0,if_pos hy0]
    rw [hsv] at HSG
    have HLX:Hid ((d16 X).length≤1099511627775):=Ac (by rw [←hX];have:=HLX.out;unfold d16 at *;rwa [Int.natAbs_neg])
    have HLY:Hid ((d16 Y).length≤1099511627775):=Ac (by rw [←hY];have:=HLY.out;unfold d16 at *;rwa [Int.natAbs_neg])
    clear hQ hsv h0 hy0 hX hY
    go_enter Tryz.func83,Tryz.ntmps83
    go_wp2_with fail
    generalize ((w.alloc (.cells #[.bool (decide (x<0)),.slice A1 (d16 x).length c1] 122)).alloc (.cells #[.bool (decide (y<0)),.slice A2 (d16 y).length c2] 122)).alloc (.cells #[.bool false,.slice none 0 0,.bool false,.slice none 0 0] 126)=wa at *
    generalize hs:w.heap.size=s at *
    have HS:=Ac hs
    clear hs
    refine HSG.out.mono ?_
    rintro e w1 ⟨rfl,hg1⟩
    have HNX:=Ac (HNX.out.more hg1)
    have HNY:=Ac (HNY.out.more hg1)
    have HBX:=Ac (HBX.out.more hg1)
    have HBY:=Ac (HBY.out.more hg1)
    have HBZ:=Ac (HBZ.out.more hg1)
    have HGW:=Ac (Ae HGW.out hg1)
    clear y0 y1 fy0 fy1 HSG hg1
    obtain ⟨x0,x1,fx0,fx1⟩:=HBX.out.two
    obtain ⟨y0,y1,fy0,fy1⟩:=HBY.out.two
    have hne:s≠s+1:=by omega
    go_upto_region 2 with (fail)
    have HENT:=Ac (show ∀ args w,(callFunc 139 args).run Tryz.prog w=.ok (.enter 139 args) w from enters_of Tryz.func139 (by kernel_rfl) rfl)
    have HMIN:=Ac (show ∀ W v z Z,Hid (-z=Z)→w1.grownBy W none→NZ W v z→Calls Tryz.prog 139 #[v] W fun e w'=>∃ v',e=.returned v'∧(∃ A c,v'=.agg #[.bool (decide (Z<0)),.slice A (d16 Z).length c]∧D16 w' (.slice A (d16 Z).length c) (d16 Z)∧w1.grownBy w' none∧W.grownBy w' none) from fun W v z Z hz hW hn=>(Kp W v z hn).mono fun e w' ⟨v',e1,e2,e3⟩=>by
      rw [hz.out] at e2
      obtain ⟨A,c,rfl,hd⟩:=e2.form
      exact ⟨_,e1,A,c,rfl,hd,Ae hW e3,e3⟩)
    go_cut [] (fun wx=>w.grownBy wx none∧Hid (NB wx s X∧NB wx (s+1) Y∧Blk wx (s+1+1) #[.bool false,.slice none 0 0,.bool false,.slice none 0 0]))
    case first =>
      go_region_law (first
        | (refine Fo (by rfl) 139 (.tmp 13) _ (by rfl) (.agg #[.bool (decide (x<0)),.slice A1 (d16 x).length c1]) (by rfl) HENT.out _ (HMIN.out _ _ x X HXE (by (focus ((repeat (first | assumption | exact Al _ _ | exact Ai _ _ | exact Af _ _ _ | refine Ae ?_ (Af _ _ _) | refine Ae ?_ (Ai _ _) | refine Ae ?_ (by assumption)));done))) (HNX.out.more (by (focus ((repeat (first | assumption | exact Al _ _ | exact Ai _ _ | exact Af _ _ _ | refine Ae ?_ (Af _ _ _) | refine Ae ?_ (Ai _ _) | refine Ae ?_ (by assumption)));done))))) ?_;rintro v5 w5 ⟨A5,c5,rfl,hd5,hg5,hk5⟩;obtain ⟨x0,x1,fx0,fx1⟩:=(HBX.out.more hg5).two;obtain ⟨y0,y1,fy0,fy1⟩:=(HBY.out.more hg5).two)
        | (refine Fo (by rfl) 139 (.tmp 15) _ (by rfl) (.agg #[.bool (decide (y<0)),.slice A2 (d16 y).length c2]) (by rfl) HENT.out _ (HMIN.out _ _ y Y HYE (by (focus ((repeat (first | assumption | exact Al _ _ | exact Ai _ _ | exact Af _ _ _ | refine Ae ?_ (Af _ _ _) | refine Ae ?_ (Ai _ _) | refine Ae ?_ (by assumption)));done))) (HNY.out.more (by (focus ((repeat (first | assumption | exact Al _ _ | exact Ai _ _ | exact Af _ _ _ | refine Ae ?_ (Af _ _ _) | refine Ae ?_ (Ai _ _) | refine Ae ?_ (by assumption)));done))))) ?_;rintro v6 w6 ⟨A6,c6,rfl,hd6,hg6,hk6⟩;have hd5:=hd5.more hk6;obtain ⟨x0,x1,fx0,fx1⟩:=(HBX.out.more hg6).two;obtain ⟨y0,y1,fy0,fy1⟩:=(HBY.out.more hg6).two)
        | (fail))
      all_goals
        go_wp2_with fail
        go_meet
        have e:=Ip hne (HBX.out.more hg6) (HBY.out.more hg6) (decide (X<0)) (decide (Y<0)) A5 A6 (d16 X).length c5 (d16 Y).length c6
        exact ⟨e.2.2.2 w (Ae HGW.out hg6) (by have:=HS.out;omega) (by have:=HS.out;omega),Ac ⟨⟨A5,c5,e.1,e.2.2.1 _ _ hd5⟩,⟨A6,c6,e.2.1,e.2.2.1 _ _ hd6⟩,Xz (HBZ.out.more hg6) (by omega) (by omega) _ _ _ _⟩⟩
    case rest =>
     as_aux_lemma =>
      obtain ⟨hgw,hfc⟩:=hcut
      obtain ⟨f1,f2,f3⟩:=hfc.out
      obtain ⟨B1,d1,h1,h2,_⟩:=f1.nz
      obtain ⟨B2,d2,h3,h4,_⟩:=f2.nz
      have HBX:=Ac h1
      have HNX:=Ac h2
      have HBY:=Ac h3
      have HNY:=Ac h4
      have HBZ:=Ac f3
      have HGW:=Ac hgw
      clear hgw hfc f1 f2 f3 h1 h2 h3 h4 x0 x1 y0 y1 fx0 fx1 fy0 fy1 HENT HMIN
      obtain ⟨x0,x1,_⟩:=HBX.out.two
      obtain ⟨y0,y1,_⟩:=HBY.out.two
      go_wp2_with fail
      refine (Ju wc _ _ X Y HNX.out HNY.out HLX.out HLY.out).mono ?_
      rintro e w2 ⟨gv,rfl,hg,hg2⟩
      have hgl:=Vp (x:=X) HY0.out
      have hnum:=Gr X Y (by have:=HY0.out;omega)
      have hden:=Gq X Y (by have:=HY0.out;omega)
      rw [Z4 HY0.out] at hnum hden
      rw [HQQ.out] at hnum hden
      generalize Nat.gcd (X).natAbs (Y).natAbs=G at *
      have HLG:Hid ((d16 (G:Int)).length≤1099511627775):=Ac (Nat.le_trans hgl.2 HLY.out)
      have HG0:Hid ((G:Int)≠0):=Ac (by have:=hgl.1;omega)
      obtain ⟨Ag,cg,rfl,hdg⟩:=hg.form
      have ga:=Af w2 (.cells #[.bool (decide ((G:Int)<0)),.slice Ag (d16 (G:Int)).length cg] 122) none
      have hGB:=Blk.new w2 #[.bool (decide ((G:Int)<0)),.slice Ag (d16 (G:Int)).length cg] 122
      have HG3:=Ac (Ae hg2 ga)
      have HGB:=Ac hGB
      have HNG:Hid (NZ (w2.alloc (.cells #[.bool (decide ((G:Int)<0)),.slice Ag (d16 (G:Int)).length cg] 122)) (.agg #[.bool (decide ((G:Int)<0)),.slice Ag (d16 (G:Int)).length cg]) (G:Int)):=Ac ⟨_,rfl,hdg.more ga⟩
      have HDV:=Ac (El (w2.alloc (.cells #[.bool (decide ((G:Int)<0)),.slice Ag (d16 (G:Int)).length cg] 122)) _ _ X (G:Int) (HNX.out.more HG3.out) HNG.out HG0.out (Nat.le_trans HLX.out (by omega)) HLG.out)
      have hbx:=HBX.out.more HG3.out
      clear x0 x1 y0 y1 hg hdg hg2 ga hGB hgl
      obtain ⟨x0,x1,_⟩:=hbx.two
      obtain ⟨k0,k1,_⟩:=HGB.out.two
      clear hbx
      obtain ⟨p,hp⟩:∃ p,(X).tdiv (G:Int)=p:=⟨_,rfl⟩
      obtain ⟨q,hq⟩:∃ q,(Y).tdiv (G:Int)=q:=⟨_,rfl⟩
      rw [hp] at hnum HDV
      rw [hq] at hden
      have HQE:=Ac hq
      have HNUM:=Ac hnum
      have HDEN:=Ac hden
      clear hp hq hnum hden
      go_wp2_with fail
      generalize w2.alloc (.cells #[.bool (decide ((G:Int)<0)),.slice Ag (d16 (G:Int)).length cg] 122)=w3 at *
      generalize w2.heap.size=gb at *
      refine HDV.out.mono ?_
      rintro e w4 ⟨qv,rv,rfl,hqv,hrv,hg4⟩
      generalize (X).tmod (G:Int)=r1 at *
      obtain ⟨Ap,cp,rfl,hdp⟩:=hqv.form
      obtain ⟨Ar,cr,rfl,hdr⟩:=hrv.form
      have ga:=Af w4 (.cells #[.bool (decide (p<0)),.slice Ap (d16 p).length cp] 122) none
      have gb':=Af (w4.alloc (.cells #[.bool (decide (p<0)),.slice Ap (d16 p).length cp] 122)) (.cells #[.bool (decide (r1<0)),.slice Ar (d16 r1).length cr] 122) none
      have HQB:=Ac ((Blk.new w4 #[.bool (decide (p<0)),.slice Ap (d16 p).length cp] 122).more gb')
      have HG5:=Ac (Ae hg4 (Ae ga gb'))
      have HDP:=Ac (hdp.more (Ae ga gb'))
      have HDW:=Ac (El ((w4.alloc (.cells #[.bool (decide (p<0)),.slice Ap (d16 p).length cp] 122)).alloc (.cells #[.bool (decide (r1<0)),.slice Ar (d16 r1).length cr] 122)) _ _ Y (G:Int) (HNY.out.more (Ae HG3.out HG5.out)) (HNG.out.more HG5.out) HG0.out (Nat.le_trans HLY.out (by omega)) HLG.out)
      rw [HQE.out] at HDW
      have hby:=HBY.out.more (Ae HG3.out HG5.out)
      have hgb:=HGB.out.more HG5.out
      clear x0 x1 k0 k1 hqv hrv hdp hdr hg4 ga gb' HDV
      obtain ⟨y0,y1,_⟩:=hby.two
      obtain ⟨k0,k1,_⟩:=hgb.two
      clear hby hgb
      go_wp2_with fail
      generalize (w4.alloc (.cells #[.bool (decide (p<0)),.slice Ap (d16 p).length cp] 122)).alloc (.cells #[.bool (decide (r1<0)),.slice Ar (d16 r1).length cr] 122)=w5 at *
      generalize w4.heap.size=qb at *
      refine HDW.out.mono ?_
      rintro e w6 ⟨qv,rv,rfl,hqv,hrv,hg6⟩
      generalize (Y).tmod (G:Int)=r2 at *
      obtain ⟨Aq,cq,rfl,hdq⟩:=hqv.form
      obtain ⟨As,cs,rfl,hds⟩:=hrv.form
      have ga:=Af w6 (.cells #[.bool (decide (q<0)),.slice Aq (d16 q).length cq] 122) none
      have gb':=Af (w6.alloc (.cells #[.bool (decide (q<0)),.slice Aq (d16 q).length cq] 122)) (.cells #[.bool (decide (r2<0)),.slice As (d16 r2).length cs] 122) none
      have HEB:=Ac ((Blk.new w6 #[.bool (decide (q<0)),.slice Aq (d16 q).length cq] 122).more gb')
      have HG7:=Ac (Ae hg6 (Ae ga gb'))
      have HDQ:=Ac (hdq.more (Ae ga gb'))
      have hz:=HBZ.out.more (Ae HG3.out (Ae HG5.out HG7.out))
      have hqb:=HQB.out.more HG7.out
      clear y0 y1 k0 k1 hqv hrv hdq hds hg6 ga gb' HDW
      obtain ⟨q0,q1,_⟩:=hqb.two
      obtain ⟨e0,e1,_⟩:=HEB.out.two
      obtain ⟨z0,z1,z2,z3,fz⟩:=hz.four
      have HZ:=Ac hz
      have f0:=hz.free 0
      have f1:=hz.free 1
      have f2:=hz.free 2
      have f3:=hz.free 3
      clear hqb hz fz
      go_wp2_with fail
      generalize (w6.alloc (.cells #[.bool (decide (q<0)),.slice Aq (d16 q).length cq] 122)).alloc (.cells #[.bool (decide (r2<0)),.slice As (d16 r2).length cs] 122)=w7 at *
      generalize w6.heap.size=eb at *
      try simp only [Exit.inBlock,Exit.then]
      obtain ⟨w8,hw8⟩:∃ W,W=((((w7.setCell ⟨s+1+1,0,none⟩ (.bool (decide (p<0)))).setCell ⟨s+1+1,1,none⟩ (.slice Ap (d16 p).length cp)).setCell ⟨s+1+1,2,none⟩ (.bool (decide (q<0)))).setCell ⟨s+1+1,3,none⟩ (.slice Aq (d16 q).length cq)):=⟨_,rfl⟩
      rw [←hw8]
      have hB8:Blk w8 (s+1+1) #[.bool (decide (p<0)),.slice Ap (d16 p).length cp,.bool (decide (q<0)),.slice Aq (d16 q).length cq]:=by rw [hw8];exact (((HZ.out.set 0 _).set 1 _).set 2 _).set 3 _
      have hG8:w7.grownBy w8 (some (s+1+1)):=by rw [hw8];exact Jl _ _ _ _ _ _
      clear z0 z1 z2 z3 f0 f1 f2 f3 hw8 q0 q1 e0 e1
      obtain ⟨z0,z1,z2,z3,_⟩:=hB8.four
      refine bodyPost_ret (v:=.agg #[.bool (decide (p<0)),.slice Ap (d16 p).length cp,.bool (decide (q<0)),.slice Aq (d16 q).length cq]) (by simp [results,Tryz.results83,go_sem,z0,z1,z2,z3]) rfl ⟨_,rfl,⟨Ap,cp,Aq,cq,?_,?_,?_⟩,?_⟩
      · rw [HNUM.out,HDEN.out,decide_eq_false (show ¬ q<0 by rw [←HDEN.out];omega)]
      · rw [HNUM.out];exact (HDP.out.more HG7.out).keep HZ.out (by simp) hG8
      · rw [HDEN.out];exact HDQ.out.keep HZ.out (by simp) hG8
      · exact Aw (Ae HGW.out (Ae HG3.out (Ae HG5.out HG7.out))) hG8 (by have:=HS.out;omega)
  · have hyp:0<y:=by omega
    have HY0:=Ac hyp
    obtain ⟨Q,hQ⟩:∃ Q,x /. y=Q:=⟨_,rfl⟩
    rw [hQ]
    have HQQ:=Ac hQ
    have hsv:(if y=0 then (0:Int) else if y<0 then -1 else 1)=1:=by rw [if_neg h0,if_neg hy0]
    rw [hsv] at HSG
    clear hQ hsv h0 hyp hy0
    go_enter Tryz.func83,Tryz.ntmps83
    go_wp2_with fail
    generalize ((w.alloc (.cells #[.bool (decide (x<0)),.slice A1 (d16 x).length c1] 122)).alloc (.cells #[.bool (decide (y<0)),.slice A2 (d16 y).length c2] 122)).alloc (.cells #[.bool false,.slice none 0 0,.bool false,.slice none 0 0] 126)=wa at *
    generalize hs:w.heap.size=s at *
    have HS:=Ac hs
    clear hs
    refine HSG.out.mono ?_
    rintro e w1 ⟨rfl,hg1⟩
    have HNX:=Ac (HNX.out.more hg1)
    have HNY:=Ac (HNY.out.more hg1)
    have HBX:=Ac (HBX.out.more hg1)
    have HBY:=Ac (HBY.out.more hg1)
    have HBZ:=Ac (HBZ.out.more hg1)
    have HGW:=Ac (Ae HGW.out hg1)
    clear y0 y1 fy0 fy1 HSG hg1
    obtain ⟨x0,x1,_⟩:=HBX.out.two
    obtain ⟨y0,y1,_⟩:=HBY.out.two
    go_wp2_with fail
    refine (Ju w1 _ _ x y HNX.out HNY.out HLX.out HLY.out).mono ?_
    rintro e w2 ⟨gv,rfl,hg,hg2⟩
    have hgl:=Vp (x:=x) HY0.out
    have hnum:=Gr x y (by have:=HY0.out;omega)
    have hden:=Gq x y (by have:=HY0.out;omega)
    rw [Z4 HY0.out] at hnum hden
    rw [HQQ.out] at hnum hden
    generalize Nat.gcd (x).natAbs (y).natAbs=G at *
    have HLG:Hid ((d16 (G:Int)).length≤1099511627775):=Ac (Nat.le_trans hgl.2 HLY.out)
    have HG0:Hid ((G:Int)≠0):=Ac (by have:=hgl.1;omega)
    obtain ⟨Ag,cg,rfl,hdg⟩:=hg.form
    have ga:=Af w2 (.cells #[.bool (decide ((G:Int)<0)),.slice Ag (d16 (G:Int)).length cg] 122) none
    have hGB:=Blk.new w2 #[.bool (decide ((G:Int)<0)),.slice Ag (d16 (G:Int)).length cg] 122
    have HG3:=Ac (Ae hg2 ga)
    have HGB:=Ac hGB
    have HNG:Hid (NZ (w2.alloc (.cells #[.bool (decide ((G:Int)<0)),.slice Ag (d16 (G:Int)).length cg] 122)) (.agg #[.bool (decide ((G:Int)<0)),.slice Ag (d16 (G:Int)).length cg]) (G:Int)):=Ac ⟨_,rfl,hdg.more ga⟩
    have HDV:=Ac (El (w2.alloc (.cells #[.bool (decide ((G:Int)<0)),.slice Ag (d16 (G:Int)).length cg] 122)) _ _ x (G:Int) (HNX.out.more HG3.out) HNG.out HG0.out (Nat.le_trans HLX.out (by omega)) HLG.out)
    have hbx:=HBX.out.more HG3.out
    clear x0 x1 y0 y1 hg hdg hg2 ga hGB hgl
    obtain ⟨x0,x1,_⟩:=hbx.two
    obtain ⟨k0,k1,_⟩:=HGB.out.two
    clear hbx
    obtain ⟨p,hp⟩:∃ p,(x).tdiv (G:Int)=p:=⟨_,rfl⟩
    obtain ⟨q,hq⟩:∃ q,(y).tdiv (G:Int)=q:=⟨_,rfl⟩
    rw [hp] at hnum HDV
    rw [hq] at hden
    have HQE:=Ac hq
    have HNUM:=Ac hnum
    have HDEN:=Ac hden
    clear hp hq hnum hden
    go_wp2_with fail
    generalize w2.alloc (.cells #[.bool (decide ((G:Int)<0)),.slice Ag (d16 (G:Int)).length cg] 122)=w3 at *
    generalize w2.heap.size=gb at *
    refine HDV.out.mono ?_
    rintro e w4 ⟨qv,rv,rfl,hqv,hrv,hg4⟩
    generalize (x).tmod (G:Int)=r1 at *
    obtain ⟨Ap,cp,rfl,hdp⟩:=hqv.form
    obtain ⟨Ar,cr,rfl,hdr⟩:=hrv.form
    have ga:=Af w4 (.cells #[.bool (decide (p<0)),.slice Ap (d16 p).length cp] 122) none
    have gb':=Af (w4.alloc (.cells #[.bool (decide (p<0)),.slice Ap (d16 p).length cp] 122)) (.cells #[.bool (decide (r1<0)),.slice Ar (d16 r1).length cr] 122) none
    have HQB:=Ac ((Blk.new w4 #[.bool (decide (p<0)),.slice Ap (d16 p).length cp] 122).more gb')
    have HG5:=Ac (Ae hg4 (Ae ga gb'))
    have HDP:=Ac (hdp.more (Ae ga gb'))
    have HDW:=Ac (El ((w4.alloc (.cells #[.bool (decide (p<0)),.slice Ap (d16 p).length cp] 122)).alloc (.cells #[.bool (decide (r1<0)),.slice Ar (d16 r1).length cr] 122)) _ _ y (G:Int) (HNY.out.more (Ae HG3.out HG5.out)) (HNG.out.more HG5.out) HG0.out (Nat.le_trans HLY.out (by omega)) HLG.out)
    rw [HQE.out] at HDW
    have hby:=HBY.out.more (Ae HG3.out HG5.out)
    have hgb:=HGB.out.more HG5.out
    clear x0 x1 k0 k1 hqv hrv hdp hdr hg4 ga gb' HDV
    obtain ⟨y0,y1,_⟩:=hby.two
    obtain ⟨k0,k1,_⟩:=hgb.two
    clear hby hgb
    go_wp2_with fail
    generalize (w4.alloc (.cells #[.bool (decide (p<0)),.slice Ap (d16 p).length cp] 122)).alloc (.cells #[.bool (decide (r1<0)),.slice Ar (d16 r1).length cr] 122)=w5 at *
    generalize w4.heap.size=qb at *
    refine HDW.out.mono ?_
    rintro e w6 ⟨qv,rv,rfl,hqv,hrv,hg6⟩
    generalize (y).tmod (G:Int)=r2 at *
    obtain ⟨Aq,cq,rfl,hdq⟩:=hqv.form
    obtain ⟨As,cs,rfl,hds⟩:=hrv.form
    have ga:=Af w6 (.cells #[.bool (decide (q<0)),.slice Aq (d16 q).length cq] 122) none
    have gb':=Af (w6.alloc (.cells #[.bool (decide (q<0)),.slice Aq (d16 q).length cq] 122)) (.cells #[.bool (decide (r2<0)),.slice As (d16 r2).length cs] 122) none
    have HEB:=Ac ((Blk.new w6 #[.bool (decide (q<0)),.slice Aq (d16 q).length cq] 122).more gb')
    have HG7:=Ac (Ae hg6 (Ae ga gb'))
    have HDQ:=Ac (hdq.more (Ae ga gb'))
    have hz:=HBZ.out.more (Ae HG3.out (Ae HG5.out HG7.out))
    have hqb:=HQB.out.more HG7.out
    clear y0 y1 k0 k1 hqv hrv hdq hds hg6 ga gb' HDW
    obtain ⟨q0,q1,_⟩:=hqb.two
    obtain ⟨e0,e1,_⟩:=HEB.out.two
    obtain ⟨z0,z1,z2,z3,fz⟩:=hz.four
    have HZ:=Ac hz
    have f0:=hz.free 0
    have f1:=hz.free 1
    have f2:=hz.free 2
    have f3:=hz.free 3
    clear hqb hz fz
    go_wp2_with fail
    generalize (w6.alloc (.cells #[.bool (decide (q<0)),.slice Aq (d16 q).length cq] 122)).alloc (.cells #[.bool (decide (r2<0)),.slice As (d16 r2).length cs] 122)=w7 at *
    generalize w6.heap.size=eb at *
    try simp only [Exit.inBlock,Exit.then]
    obtain ⟨w8,hw8⟩:∃ W,W=((((w7.setCell ⟨s+1+1,0,none⟩ (.bool (decide (p<0)))).setCell ⟨s+1+1,1,none⟩ (.slice Ap (d16 p).length cp)).setCell ⟨s+1+1,2,none⟩ (.bool (decide (q<0)))).setCell ⟨s+1+1,3,none⟩ (.slice Aq (d16 q).length cq)):=⟨_,rfl⟩
    rw [←hw8]
    have hB8:Blk w8 (s+1+1) #[.bool (decide (p<0)),.slice Ap (d16 p).length cp,.bool (decide (q<0)),.slice Aq (d16 q).length cq]:=by rw [hw8];exact (((HZ.out.set 0 _).set 1 _).set 2 _).set 3 _
    have hG8:w7.grownBy w8 (some (s+1+1)):=by rw [hw8];exact Jl _ _ _ _ _ _
    clear z0 z1 z2 z3 f0 f1 f2 f3 hw8 q0 q1 e0 e1
    obtain ⟨z0,z1,z2,z3,_⟩:=hB8.four
    refine bodyPost_ret (v:=.agg #[.bool (decide (p<0)),.slice Ap (d16 p).length cp,.bool (decide (q<0)),.slice Aq (d16 q).length cq]) (by simp [results,Tryz.results83,go_sem,z0,z1,z2,z3]) rfl ⟨_,rfl,⟨Ap,cp,Aq,cq,?_,?_,?_⟩,?_⟩
    · rw [HNUM.out,HDEN.out,decide_eq_false (show ¬ q<0 by rw [←HDEN.out];omega)]
    · rw [HNUM.out];exact (HDP.out.more HG7.out).keep HZ.out (by simp) hG8
    · rw [HDEN.out];exact HDQ.out.keep HZ.out (by simp) hG8
    · exact Aw (Ae HGW.out (Ae HG3.out (Ae HG5.out HG7.out))) hG8 (by have:=HS.out;omega)
end
section
open Go.RowKit Go.Maps
open Rat
def L16 (q:Rat) (k:Nat):Prop:=(d16 q.num).length≤k∧(d16 (q.den:Int)).length≤k
theorem L16.mono {q:Rat} {k l:Nat} (h:L16 q k) (hl:k≤l):L16 q l:=⟨Nat.le_trans h.1 hl,Nat.le_trans h.2 hl⟩
theorem Hl (x y:Int):(d16 (x*y)).length≤(d16 x).length+(d16 y).length:=by
 unfold d16
 rw [Int.natAbs_mul]
 refine (Bz 65536 (by omega) _ _).2 ?_
 rw [Nat.pow_add]
 exact Nat.mul_lt_mul'' ((Bz 65536 (by omega) _ _).1 (Nat.le_refl _)) ((Bz 65536 (by omega) _ _).1 (Nat.le_refl _))
theorem A0j {x y:Int} {k:Nat} (hx:(d16 x).length≤k) (hy:(d16 y).length≤k):(d16 (x+y)).length≤k+1:=by
 unfold d16 at *
 refine (Bz 65536 (by omega) _ _).2 ?_
 have h1:=(Bz 65536 (by omega) _ _).1 hx
 have h2:=(Bz 65536 (by omega) _ _).1 hy
 have h3:=Int.natAbs_add_le x y
 rw [Nat.pow_succ]
 omega
theorem L16.divInt {n d:Int} {k:Nat} (hd:d≠0) (hn:(d16 n).length≤k) (h:(d16 d).length≤k):L16 (n /. d) k :=
 ⟨by rw [Gr n d hd];exact Nat.le_trans (Ym (D7 _ _)) hn,by rw [Gq n d hd];exact Nat.le_trans (Ym (D7 _ _)) h⟩
theorem L16.mul {p q:Rat} {k:Nat} (hp:L16 p k) (hq:L16 q k):L16 (p*q) (2*k):=by
 rw [Kc]
 have h1:=Hl p.num q.num;have h2:=Hl (p.den:Int) (q.den:Int)
 have:=hp.1;have:=hp.2;have:=hq.1;have:=hq.2
 exact L16.divInt (by have:=p.den_pos;have:=q.den_pos;exact Int.mul_ne_zero (by omega) (by omega)) (by omega) (by omega)
theorem L16.add {p q:Rat} {k:Nat} (hp:L16 p k) (hq:L16 q k):L16 (p+q) (2*k+1):=by
 rw [If]
 have h1:=Hl p.num q.den;have h2:=Hl (p.den:Int) (q.den:Int);have h3:=Hl q.num p.den
 have:=hp.1;have:=hp.2;have:=hq.1;have:=hq.2
 exact L16.divInt (by have:=p.den_pos;have:=q.den_pos;exact Int.mul_ne_zero (by omega) (by omega)) (A0j (k:=2*k) (by omega) (by omega)) (by omega)
end
section
open Go.RowKit Go.Maps
open Rat
theorem Wk (p q:Rat):(if p.num*(q.den:Int)-q.num*(p.den:Int)=0 then (0:Int) else if p.num*(q.den:Int)-q.num*(p.den:Int)<0 then -1 else 1)=cmpQ p q:=by
 unfold cmpQ
 have h1:p<q↔p.num*(q.den:Int)<q.num*(p.den:Int):=Rat.lt_iff p q
 have h2:q<p↔q.num*(p.den:Int)<p.num*(q.den:Int):=Rat.lt_iff q p
 by_cases a:p<q
 ·have:=h1.1 a
  rw [if_pos a,if_neg (by omega),if_pos (by omega)]
 ·rw [if_neg a]
  have ha:¬ p.num*(q.den:Int)<q.num*(p.den:Int):=fun h=>a (h1.2 h)
  by_cases b:p=q
  ·subst b;simp
  ·have:¬ p.num*(q.den:Int)=q.num*(p.den:Int):=fun h=>b (Rat.le_antisymm (Rat.not_lt.1 fun h'=>by have:=h2.1 h';omega) (Rat.not_lt.1 a))
   rw [if_neg b,if_neg (by omega),if_neg (by omega)]
theorem FQ.form {w:World} {v:Value} {q:Rat} (h:FQ w v q):∃ A c A' c',v=.agg #[.bool (decide (q.num<0)),.slice A (d16 q.num).length c,.bool false,.slice A' (d16 (q.den:Int)).length c']∧NZ w (.agg #[.bool (decide (q.num<0)),.slice A (d16 q.num).length c]) q.num∧NZ w (.agg #[.bool false,.slice A' (d16 (q.den:Int)).length c']) (q.den:Int):=by
 obtain ⟨A,c,A',c',rfl,h1,h2⟩:=h
 exact ⟨A,c,A',c',rfl,⟨_,rfl,h1⟩,Ut h2⟩
set_option maxRecDepth 100000 in
theorem Rg (w:World) (v1 v2:Value) (p q:Rat) (ha:FQ w v1 p) (hb:FQ w v2 q) (K:Nat) (lp:L16 p K) (lq:L16 q K) (hK:K≤500000000000) :
    Calls Tryz.prog 196 #[v1,v2] w fun e w'=>e=.returned (.int .i64 (cmpQ p q))∧w.grownBy w' none:=by
  rw [←Wk p q]
  obtain ⟨A1,c1,A2,c2,rfl,h1,h2⟩:=ha.form
  obtain ⟨A3,c3,A4,c4,rfl,h3,h4⟩:=hb.form
  have g1:=Af w (.cells #[.bool (decide (p.num<0)),.slice A1 (d16 p.num).length c1,.bool false,.slice A2 (d16 (p.den:Int)).length c2] 126) none
  have HGW:=Ac (Ae g1 (Af _ (.cells #[.bool (decide (q.num<0)),.slice A3 (d16 q.num).length c3,.bool false,.slice A4 (d16 (q.den:Int)).length c4] 126) none))
  have hB1:=(Blk.new w #[.bool (decide (p.num<0)),.slice A1 (d16 p.num).length c1,.bool false,.slice A2 (d16 (p.den:Int)).length c2] 126).more (Af _ (.cells #[.bool (decide (q.num<0)),.slice A3 (d16 q.num).length c3,.bool false,.slice A4 (d16 (q.den:Int)).length c4] 126) none)
  have hB2:=Blk.new (w.alloc (.cells #[.bool (decide (p.num<0)),.slice A1 (d16 p.num).length c1,.bool false,.slice A2 (d16 (p.den:Int)).length c2] 126)) #[.bool (decide (q.num<0)),.slice A3 (d16 q.num).length c3,.bool false,.slice A4 (d16 (q.den:Int)).length c4] 126
  rw [World.size_alloc] at hB2
  have HPA:=Ac (h1.more HGW.out)
  have HPB:=Ac (h2.more HGW.out)
  have HQA:=Ac (h3.more HGW.out)
  have HQB:=Ac (h4.more HGW.out)
  have HLP:=Ac lp
  have HLQ:=Ac lq
  have HM3:=Ac (Hl p.num (q.den:Int))
  have HM4:=Ac (Hl q.num (p.den:Int))
  unfold L16 at HLP HLQ
  clear h1 h2 h3 h4 lp lq ha hb g1
  generalize p.num=a at *
  generalize (p.den:Int)=b at *
  generalize q.num=c at *
  generalize (q.den:Int)=d at *
  obtain ⟨R,hR⟩:∃ R:Int,(if a*d-c*b=0 then (0:Int) else if a*d-c*b<0 then -1 else 1)=R:=⟨_,rfl⟩
  rw [hR]
  have HRR:=Ac hR
  clear hR
  generalize hna:(d16 a).length=na at *
  generalize hnb:(d16 b).length=nb at *
  generalize hnc:(d16 c).length=nc at *
  generalize hnd:(d16 d).length=nd at *
  have HEA:=Ac hna
  have HEB:=Ac hnb
  have HEC:=Ac hnc
  have HED:=Ac hnd
  generalize decide (a<0)=sa at *
  generalize decide (c<0)=sc at *
  clear hna hnb hnc hnd
  obtain ⟨x0,x1,x2,x3,_⟩:=hB1.four
  obtain ⟨y0,y1,y2,y3,_⟩:=hB2.four
  clear hB1 hB2
  go_enter Tryz.func196,Tryz.ntmps196
  go_wp2_with fail
  generalize (w.alloc (.cells #[.bool sa,.slice A1 na c1,.bool false,.slice A2 nb c2] 126)).alloc (.cells #[.bool sc,.slice A3 nc c3,.bool false,.slice A4 nd c4] 126)=wa at *
  generalize w.heap.size=s at *
  have HKK:=Ac (fun W (h:wa.grownBy W none)=>(⟨Aj h x0 (by simp),Aj h x1 (by simp),Aj h x2 (by simp),Aj h x3 (by simp),Aj h y0 (by simp),Aj h y1 (by simp),Aj h y2 (by simp),Aj h y3 (by simp)⟩:W.cell? ⟨s,0,none⟩=some (.bool sa)∧W.cell? ⟨s,1,none⟩=some (.slice A1 na c1)∧W.cell? ⟨s,2,none⟩=some (.bool false)∧W.cell? ⟨s,3,none⟩=some (.slice A2 nb c2)∧W.cell? ⟨s+1,0,none⟩=some (.bool sc)∧W.cell? ⟨s+1,1,none⟩=some (.slice A3 nc c3)∧W.cell? ⟨s+1,2,none⟩=some (.bool false)∧W.cell? ⟨s+1,3,none⟩=some (.slice A4 nd c4)))
  go_region_held3 (fun W=>W.cell? ⟨s,0,none⟩=some (.bool sa)∧W.cell? ⟨s,1,none⟩=some (.slice A1 na c1)∧W.cell? ⟨s,2,none⟩=some (.bool false)∧W.cell? ⟨s,3,none⟩=some (.slice A2 nb c2)∧W.cell? ⟨s+1,0,none⟩=some (.bool sc)∧W.cell? ⟨s+1,1,none⟩=some (.slice A3 nc c3)∧W.cell? ⟨s+1,2,none⟩=some (.bool false)∧W.cell? ⟨s+1,3,none⟩=some (.slice A4 nd c4)) (first | go_keep | exact HKK.out _ (by (focus ((repeat (first | assumption | exact Al _ _ | exact Ai _ _ | exact Af _ _ _ | refine Ae ?_ (Af _ _ _) | refine Ae ?_ (Ai _ _) | refine Ae ?_ (by assumption)));done))))
   (first
   | (go_at_call_of 107 (Value.agg #[.bool sa,.slice A1 na c1]);refine (Eg _ _ _ a d (HPA.out.more (by (focus ((repeat (first | assumption | exact Al _ _ | exact Ai _ _ | exact Af _ _ _ | refine Ae ?_ (Af _ _ _) | refine Ae ?_ (Ai _ _) | refine Ae ?_ (by assumption)));done)))) (HQB.out.more (by (focus ((repeat (first | assumption | exact Al _ _ | exact Ai _ _ | exact Af _ _ _ | refine Ae ?_ (Af _ _ _) | refine Ae ?_ (Ai _ _) | refine Ae ?_ (by assumption)));done)))) (by rw [HEA.out];have:=HLP.out.1;omega) (by rw [HED.out];have:=HLQ.out.2;omega)).mono ?_;rintro e w2 ⟨v2,rfl,hv2,hg2⟩)
   | (go_at_call_of 107 (Value.agg #[.bool sc,.slice A3 nc c3]);refine (Eg _ _ _ c b (HQA.out.more (by (focus ((repeat (first | assumption | exact Al _ _ | exact Ai _ _ | exact Af _ _ _ | refine Ae ?_ (Af _ _ _) | refine Ae ?_ (Ai _ _) | refine Ae ?_ (by assumption)));done)))) (HPB.out.more (by (focus ((repeat (first | assumption | exact Al _ _ | exact Ai _ _ | exact Af _ _ _ | refine Ae ?_ (Af _ _ _) | refine Ae ?_ (Ai _ _) | refine Ae ?_ (by assumption)));done)))) (by rw [HEC.out];have:=HLQ.out.1;omega) (by rw [HEB.out];have:=HLP.out.2;omega)).mono ?_;rintro e w6 ⟨vc,rfl,hvc,hg6⟩)
   | (go_at_call 223;refine (Rj _ _ _ (a*d) (c*b) (hv2.more (by (focus ((repeat (first | assumption | exact Al _ _ | exact Ai _ _ | exact Af _ _ _ | refine Ae ?_ (Af _ _ _) | refine Ae ?_ (Ai _ _) | refine Ae ?_ (by assumption)));done)))) (hvc.more (by (focus ((repeat (first | assumption | exact Al _ _ | exact Ai _ _ | exact Af _ _ _ | refine Ae ?_ (Af _ _ _) | refine Ae ?_ (Ai _ _) | refine Ae ?_ (by assumption)));done)))) (by have:=HM3.out;have:=HLP.out.1;have:=HLQ.out.2;omega) (by have:=HM4.out;have:=HLP.out.2;have:=HLQ.out.1;omega)).mono ?_;rw [HRR.out];rintro e w7 ⟨rfl,hg7⟩))
  all_goals
    go_wp2_with fail
    go_ret
    exact ⟨rfl,Ae HGW.out (show wa.grownBy w7 none by (focus ((repeat (first | assumption | exact Al _ _ | exact Ai _ _ | exact Af _ _ _ | refine Ae ?_ (Af _ _ _) | refine Ae ?_ (Ai _ _) | refine Ae ?_ (by assumption)));done)))⟩
theorem L16.neg {q:Rat} {k:Nat} (h:L16 q k):L16 (-q) k:=⟨by rw [Rat.neg_num];have:=h.1;unfold d16 at *;rwa [Int.natAbs_neg],by rw [Rat.neg_den];exact h.2⟩
end
section
open Go.RowKit Go.Maps
theorem Va {P:Program} {w:World} {ops:Array Oper} {o:Oper} {a:Act} {K:Act→World→Prop} {Q:Exit→Act→World→Prop} {E:Prop} (hgd:o.guard=none) (f:FuncId) (x y:Operand) (tx ty:TypeId)
  (ho:o.op=.call { callee:=.value (.func f),args:=#[x,y],argTypes:=#[tx,ty] }) (u v:Value) (hu:a.eval x=u) (hv:a.eval y=v)
  (henter:∀ args w,(callFunc f args).run P w=.ok (.enter f args) w)
  (R:Value→World→Prop) (hC:Calls P f #[u,v] w fun e w'=>∃ v,e=.returned v∧R v w') (hK:∀ v w',R v w'→K (a.put o.dst v) w') :
  if Region.wanted o (yielded ops a.tmps)=true then Oper.wp P o a w K Q else E:=by
 have hw:Region.wanted o (yielded ops a.tmps)=true:=by simp [Region.wanted,hgd]
 rw [if_pos hw]
 have hf:a.eval (.func f)=.func (.func f) #[] #[]:=rfl
 have hrun:(execOp a.eval o).run P w=.ok (.enter f #[u,v]) w:=by
  generalize a.eval=ev at *
  simp [execOp,ho,resolve,invoke,hu,hv,hf,henter,go_sem]
 unfold Oper.wp
 rw [hrun]
 simp only [Oper.upon]
 refine hC.mono ?_
 rintro e w' ⟨v,rfl,hr⟩
 exact hK v w' hr
end
end Go.Proofs.YtmfmfpmkgmkgiaaGreatDoor
