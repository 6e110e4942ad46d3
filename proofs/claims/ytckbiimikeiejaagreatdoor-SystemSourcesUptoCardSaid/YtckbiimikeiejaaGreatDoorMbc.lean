/- SumG SumH WavB SumI. -/
import Derived.Test.YtckbiimikeiejaaGreatDoorMbb
import Derived.Deep.Cut
import Derived.Test.YtckbiimikeiejaaGreatDoorMaj
import Derived.Test.YtckbiimikeiejaaGreatDoorMai
import Derived.Test.YtckbiimikeiejaaGreatDoorMag
import Derived.Test.YtckbiimikeiejaaGreatDoorMae
set_option linter.unusedVariables false
set_option linter.unusedSimpArgs false
set_option maxHeartbeats 40000000
namespace Go.Proofs.YtckbiimikeiejaaGreatDoor
section
open Go.RowKit Go.Maps
open Rat
def kOf (L:List StampP) (r:Nat):Int:=Fi (accQ L (r*5+4) 0) (E4 L r)
def Bb (L:List StampP) (r k:Nat):List CellP:=(J0 L (r*5+k) (E4 L r)).map Mf
def Dk (L:List StampP) (r:Nat):RowP:=⟨decide (((E4 L r:Nat):Int)<0),digs (E4 L r:Nat),Bb L r 1,Bb L r 2,Bb L r 3,decide (kOf L r<0),digs (kOf L r)⟩
theorem Mw (m:Nat):Fi 0 m=0:=by unfold Fi;simp
theorem Il {w:World} {s:Nat} (h:Blk w s #[.bool false,.slice none 0 0,.slice none 0 0,.slice none 0 0,.slice none 0 0,.bool false,.slice none 0 0]):Dt w s:=by
 obtain ⟨T,h⟩:=h
 refine C1 h ?_
 intro u hu n
 simp at hu
 rcases hu with rfl | rfl | rfl | rfl<;>simp
theorem M6 {w:World} {s:Nat} (h:Blk w s #[.bool false,.slice none 0 0,.slice none 0 0,.slice none 0 0,.slice none 0 0,.bool false,.slice none 0 0]):Soft w s:=⟨Il h,fun n=>by rw [h.cell 0];simp⟩
set_option maxRecDepth 100000 in
theorem V8 (w:World) (base rb n r K:Nat) (L:List StampP) (hS:SumsS w base rb n L) (hrn:r<n) (hL:LimL L K) (hkb:L.length*(K+2)+1≤200000000) (hll:L.length≤1000000) :
  Calls Tryz.prog 59 #[.pointer (some ⟨rb,r*5,none⟩)] w fun e w'=>∃ vm va vh vs vk,e=.returned (.agg #[.bool (Dk L r).mneg,vm,va,vh,vs,.bool (Dk L r).kneg,vk])∧Nums w' vm (Dk L r).mlimbs∧Stab (fun w'=>CellRow w' va (Dk L r).a) w'∧Stab (fun w'=>CellRow w' vh (Dk L r).h) w'∧Stab (fun w'=>CellRow w' vs (Dk L r).s) w'∧Nums w' vk (Dk L r).klimbs∧
   ((Dk L r).a.length≤L.length∧(Dk L r).h.length≤L.length∧(Dk L r).s.length≤L.length)∧w.grownBy w' none:=by
 have ga:=Af w (.cells #[.bool false,.slice none 0 0,.slice none 0 0,.slice none 0 0,.slice none 0 0,.bool false,.slice none 0 0] 52) none
 have hB:=Blk.new w #[.bool false,.slice none 0 0,.slice none 0 0,.slice none 0 0,.slice none 0 0,.bool false,.slice none 0 0] 52
 have HB:=Ac hB
 have HS:=Ac (hS.more ga)
 have HL:=Ac hL
 have HGA:=Ac ga
 have hml:=Xb hL r
 have HML:Hid (lim ((E4 L r:Nat):Int)≤200000000):=Ac (Nat.le_trans hml (by rw [Nat.mul_add] at hkb;omega))
 have HKB:=Ac hkb
 clear hS hL ga hB hml hkb
 go_enter Tryz.func59,Tryz.ntmps59
 go_wp2_with fail
 have hsa:(w.alloc (.cells #[.bool false,.slice none 0 0,.slice none 0 0,.slice none 0 0,.slice none 0 0,.bool false,.slice none 0 0] 52)).heap.size=w.heap.size+1:=by simp
 have HSA:=Ac hsa
 clear hsa
 generalize w.alloc (.cells #[.bool false,.slice none 0 0,.slice none 0 0,.slice none 0 0,.slice none 0 0,.bool false,.slice none 0 0] 52)=wa at *
 generalize hsz:w.heap.size=s at *
 have HSZ:=Ac hsz
 clear hsz
 refine (Th wa base rb n r K L HS.out hrn HL.out (Nat.le_trans HKB.out (by omega))).mono ?_
 rintro e w1 ⟨bm,rfl,hi1,hb1,hg1⟩
 have HI1:=Ac hi1
 have HG1:=Ac hg1
 clear hi1 hb1 hg1
 go_wp2_with fail
 refine (E6 w1 bm 0 _ HI1.out.at (Nat.le_trans HML.out (by omega))).mono ?_
 rintro e w2 ⟨vm,rfl,hn2,hf2,hg2⟩
 obtain ⟨Am,nm,cm,rfl⟩:=hn2.ctor
 have HN2:=Ac hn2
 have HG2:=Ac (Ae HG1.out hg2)
 have HI2:=Ac (HI1.out.more hg2)
 clear hn2 hf2 hg2
 go_wp2_with fail
 refine (Im w2 base rb n r 1 K bm (E4 L r) L (HS.out.more HG2.out) hrn (by omega) HL.out HKB.out hll HI2.out HML.out).mono ?_
 rintro e w3 ⟨va,rfl,hc3,hf3,hg3⟩
 have HC3:=Ac (show Stab (fun w'=>CellRow w' va (Bb L r 1)) w3 from hc3)
 have HF3:=Ac (show (Bb L r 1).length≤L.length from by unfold Bb;rw [List.length_map];exact hf3)
 have HG3:=Ac (Ae HG2.out hg3)
 have HI3:=Ac (HI2.out.more hg3)
 have HN3:=Ac (HN2.out.more hg3)
 clear hc3 hf3 hg3
 go_wp2_with fail
 refine (Im w3 base rb n r 2 K bm (E4 L r) L (HS.out.more HG3.out) hrn (by omega) HL.out HKB.out hll HI3.out HML.out).mono ?_
 rintro e w4 ⟨vh,rfl,hc4,hf4,hg4⟩
 have HC4:=Ac (show Stab (fun w'=>CellRow w' vh (Bb L r 2)) w4 from hc4)
 have HF4:=Ac (show (Bb L r 2).length≤L.length from by unfold Bb;rw [List.length_map];exact hf4)
 have HG4:=Ac (Ae HG3.out hg4)
 have HI4:=Ac (HI3.out.more hg4)
 have HN4:=Ac (HN3.out.more hg4)
 have HC3':=Ac (HC3.out.more hg4)
 clear hc4 hf4 hg4
 go_wp2_with fail
 refine (Im w4 base rb n r 3 K bm (E4 L r) L (HS.out.more HG4.out) hrn (by omega) HL.out HKB.out hll HI4.out HML.out).mono ?_
 rintro e w5 ⟨vs,rfl,hc5,hf5,hg5⟩
 have HC5:=Ac (show Stab (fun w'=>CellRow w' vs (Bb L r 3)) w5 from hc5)
 have HF5:=Ac (show (Bb L r 3).length≤L.length from by unfold Bb;rw [List.length_map];exact hf5)
 have HG5:=Ac (Ae HG4.out hg5)
 have HI5:=Ac (HI4.out.more hg5)
 have HN5:=Ac (HN4.out.more hg5)
 have HC3'':=Ac (HC3'.out.more hg5)
 have HC4':=Ac (HC4.out.more hg5)
 clear hc5 hf5 hg5
 obtain ⟨Aa,ca,rfl,_⟩:=HC3''.out.here.ctor
 obtain ⟨Ah,ch,rfl,_⟩:=HC4'.out.here.ctor
 obtain ⟨As,cs,rfl,_⟩:=HC5.out.here.ctor
 obtain ⟨ms,E,hms,hE,hsnd⟩:=HS.out
 have hil:r*5+4<ms.length:=by omega
 obtain ⟨om,hmo⟩:∃ o,ms[r*5+4]? = some o:=⟨_,List.getElem?_eq_getElem hil⟩
 have gr:=Af w5 (.cells #[.bool (decide (((E4 L r:Nat):Int)<0)),.slice Am nm cm,.slice Aa (Bb L r 1).length ca,.slice Ah (Bb L r 2).length ch,.slice As (Bb L r 3).length cs,.bool false,.slice none 0 0] 52) none
 have hBR:=Blk.new w5 #[.bool (decide (((E4 L r:Nat):Int)<0)),.slice Am nm cm,.slice Aa (Bb L r 1).length ca,.slice Ah (Bb L r 2).length ch,.slice As (Bb L r 3).length cs,.bool false,.slice none 0 0] 52
 have hE6:=hE.more (Ae HG5.out gr)
 have hcell:=hE6.cell hmo
 have i0:I64 0:=⟨by decide,by decide⟩
 have hl0:=fun W:World=>(Wy W i0).1
 have HE6:=Ac hE6
 have HGR:=Ac (Ae HG5.out gr)
 have HMO:=Ac hmo
 have HSND:=Ac hsnd
 have HBR:=Ac hBR
 have HN6:=Ac (HN5.out.more gr)
 have HI6:=Ac (HI5.out.more gr)
 have HA6:=Ac (HC3''.out.more gr)
 have HH6:=Ac (HC4'.out.more gr)
 have HS6:=Ac (HC5.out.more gr)
 have hHSB:=HB.out.more (Ae HG5.out gr)
 have HSB:=Ac hHSB
 have hst:=hHSB.lt
 have HGR5:=Ac gr
 clear HI5 HC3' HC3 HC4 HN4 HN3 HN2 HI4 HI3 HI2 HI1 HG1 HG2 HG3 HG4 HB hHSB hE6 hE hmo hsnd gr
 have HM:Hid (((E4 L r:Nat):Int)=((E4 L r:Nat):Int)):=Ac rfl
 have HR1:Hid ((Dk L r).mneg=decide (((E4 L r:Nat):Int)<0)∧(Dk L r).kneg=decide (kOf L r<0)∧(Dk L r).klimbs=digs (kOf L r)):=Ac ⟨rfl,rfl,rfl⟩
 generalize hmn:decide (((E4 L r:Nat):Int)<0)=mn at *
 cases om with
 | none =>
  have HKO:Hid (kOf L r=0):=Ac (by unfold kOf;rw [Lc HSND.out (HE6.out.nil _ 0 HMO.out),Mw])
  obtain ⟨r0,r1,r2,r3,r4,r5,r6⟩:=hBR.seven
  have HNK:Hid (Nums (w5.alloc (.cells #[.bool mn,.slice Am nm cm,.slice Aa (Bb L r 1).length ca,.slice Ah (Bb L r 2).length ch,.slice As (Bb L r 3).length cs,.bool false,.slice none 0 0] 52)) (.slice none 0 0) (digs 0)):=Ac (Nums.nil _)
  obtain ⟨x0,x1,x2,x3,x4,x5,x6⟩:=HSB.out.seven
  have y0:=HSB.out.free 0
  have y1:=HSB.out.free 1
  have y2:=HSB.out.free 2
  have y3:=HSB.out.free 3
  have y4:=HSB.out.free 4
  have y5:=HSB.out.free 5
  have y6:=HSB.out.free 6
  go_wp2_with fail
  try simp only [Exit.inBlock,Exit.then]
  have hgf:(w5.alloc (.cells #[.bool mn,.slice Am nm cm,.slice Aa (Bb L r 1).length ca,.slice Ah (Bb L r 2).length ch,.slice As (Bb L r 3).length cs,.bool false,.slice none 0 0] 52)).grownBy ((((((((w5.alloc (.cells #[.bool mn,.slice Am nm cm,.slice Aa (Bb L r 1).length ca,.slice Ah (Bb L r 2).length ch,.slice As (Bb L r 3).length cs,.bool false,.slice none 0 0] 52)).setCell ⟨s,0,none⟩ (.bool mn)).setCell ⟨s,1,none⟩ (.slice Am nm cm)).setCell ⟨s,2,none⟩ (.slice Aa (Bb L r 1).length ca)).setCell ⟨s,3,none⟩ (.slice Ah (Bb L r 2).length ch)).setCell ⟨s,4,none⟩ (.slice As (Bb L r 3).length cs)).setCell ⟨s,5,none⟩ (.bool false)).setCell ⟨s,6,none⟩ (.slice none 0 0)) (some s):=Ae (Ae (Ae (Ae (Ae (Ae (Au _ _ _ _) (Au _ _ _ _)) (Au _ _ _ _)) (Au _ _ _ _)) (Au _ _ _ _)) (Au _ _ _ _)) (Au _ _ _ _)
  have hpl:=Il HSB.out
  have hsf:=M6 HSB.out
  have hsy:=StayR.row hgf hsf
  refine bodyPost_ret (v:=.agg #[.bool mn,.slice Am nm cm,.slice Aa (Bb L r 1).length ca,.slice Ah (Bb L r 2).length ch,.slice As (Bb L r 3).length cs,.bool false,.slice none 0 0]) (by simp [results,Tryz.results59,go_sem, *]) rfl ⟨.slice Am nm cm,.slice Aa (Bb L r 1).length ca,.slice Ah (Bb L r 2).length ch,.slice As (Bb L r 3).length cs,.slice none 0 0,?_,HN6.out.other hgf hpl,HA6.out.step hsy,HH6.out.step hsy,HS6.out.step hsy,?_,⟨HF3.out,HF4.out,HF5.out⟩,Aw (Ae HGA.out HGR.out) hgf (by have:=HSZ.out;omega)⟩
  ·rw [HR1.out.1,HR1.out.2.1]
   rw [HKO.out];rfl
  ·rw [HR1.out.2.2]
   rw [HKO.out];exact HNK.out.other hgf hpl
 | some mp =>
  have hmap:=(HE6.out.maps _ _ HMO.out).2
  cases hEc:E (r*5+4) 0 with
  | none =>
   have HKO:Hid (kOf L r=0):=Ac (by unfold kOf;rw [Lc HSND.out hEc,Mw])
   obtain ⟨r0,r1,r2,r3,r4,r5,r6⟩:=hBR.seven
   have HNK:Hid (Nums (w5.alloc (.cells #[.bool mn,.slice Am nm cm,.slice Aa (Bb L r 1).length ca,.slice Ah (Bb L r 2).length ch,.slice As (Bb L r 3).length cs,.bool false,.slice none 0 0] 52)) (.slice none 0 0) (digs 0)):=Ac (Nums.nil _)
   obtain ⟨x0,x1,x2,x3,x4,x5,x6⟩:=HSB.out.seven
   have y0:=HSB.out.free 0
   have y1:=HSB.out.free 1
   have y2:=HSB.out.free 2
   have y3:=HSB.out.free 3
   have y4:=HSB.out.free 4
   have y5:=HSB.out.free 5
   have y6:=HSB.out.free 6
   go_wp2_with (first
    | (at_lookup;refine Fj rfl _ _ rfl 0 i0 hmap rfl rfl (.pointer none) false (by rw [hEc];rfl) (by rw [hEc];rfl) ?_)
    | fail)
   go_wp2_with fail
   try simp only [Exit.inBlock,Exit.then]
   have hgf:(w5.alloc (.cells #[.bool mn,.slice Am nm cm,.slice Aa (Bb L r 1).length ca,.slice Ah (Bb L r 2).length ch,.slice As (Bb L r 3).length cs,.bool false,.slice none 0 0] 52)).grownBy ((((((((w5.alloc (.cells #[.bool mn,.slice Am nm cm,.slice Aa (Bb L r 1).length ca,.slice Ah (Bb L r 2).length ch,.slice As (Bb L r 3).length cs,.bool false,.slice none 0 0] 52)).setCell ⟨s,0,none⟩ (.bool mn)).setCell ⟨s,1,none⟩ (.slice Am nm cm)).setCell ⟨s,2,none⟩ (.slice Aa (Bb L r 1).length ca)).setCell ⟨s,3,none⟩ (.slice Ah (Bb L r 2).length ch)).setCell ⟨s,4,none⟩ (.slice As (Bb L r 3).length cs)).setCell ⟨s,5,none⟩ (.bool false)).setCell ⟨s,6,none⟩ (.slice none 0 0)) (some s):=Ae (Ae (Ae (Ae (Ae (Ae (Au _ _ _ _) (Au _ _ _ _)) (Au _ _ _ _)) (Au _ _ _ _)) (Au _ _ _ _)) (Au _ _ _ _)) (Au _ _ _ _)
   have hpl:=Il HSB.out
   have hsf:=M6 HSB.out
   have hsy:=StayR.row hgf hsf
   refine bodyPost_ret (v:=.agg #[.bool mn,.slice Am nm cm,.slice Aa (Bb L r 1).length ca,.slice Ah (Bb L r 2).length ch,.slice As (Bb L r 3).length cs,.bool false,.slice none 0 0]) (by simp [results,Tryz.results59,go_sem, *]) rfl ⟨.slice Am nm cm,.slice Aa (Bb L r 1).length ca,.slice Ah (Bb L r 2).length ch,.slice As (Bb L r 3).length cs,.slice none 0 0,?_,HN6.out.other hgf hpl,HA6.out.step hsy,HH6.out.step hsy,HS6.out.step hsy,?_,⟨HF3.out,HF4.out,HF5.out⟩,Aw (Ae HGA.out HGR.out) hgf (by have:=HSZ.out;omega)⟩
   ·rw [HR1.out.1,HR1.out.2.1]
    rw [HKO.out];rfl
   ·rw [HR1.out.2.2]
    rw [HKO.out];exact HNK.out.other hgf hpl
  | some bq =>
   obtain ⟨b,q⟩:=bq
   have hq:=Ld HSND.out hEc
   rw [hq] at hEc
   have hF:(E (r*5+4) 0).map Prod.fst=some b:=by rw [hEc];rfl
   have HRAT:=Ac ((HE6.out.rats _ _ _ _ hEc).2)
   have HKZ:Hid (Fi (accQ L (r*5+4) 0) (E4 L r)=kOf L r):=Ac rfl
   have hla:=(Kr HL.out (r*5+4) 0).mono HKB.out
   have HLW:=Ac (Om hla HML.out)
   have HLA:=Ac hla
   clear hq hla
   go_wp2_with (first
    | (at_lookup;refine Fj rfl _ _ rfl 0 i0 hmap rfl rfl (.pointer (some ⟨b,0,none⟩)) true (by rw [hEc];rfl) (by rw [hEc];rfl) ?_)
    | fail)
   generalize hw6:w5.alloc (.cells #[.bool mn,.slice Am nm cm,.slice Aa (Bb L r 1).length ca,.slice Ah (Bb L r 2).length ch,.slice As (Bb L r 3).length cs,.bool false,.slice none 0 0] 52)=w6 at *
   obtain ⟨tb,hrb⟩:∃ tb,w5.heap.size=tb:=⟨_,rfl⟩
   rw [hrb] at hBR HBR ⊢
   have HTB:=Ac hrb
   have hst:s<tb:=by rw [←hrb];have:=(Ae HGR5.out (Al _ _)).size;have:=HG5.out.size;have:=HSA.out;omega
   clear hw6 hrb
   refine (Mr w6 b bm _ _ HRAT.out HI6.out HLA.out HML.out).mono ?_
   rintro e w7 ⟨b7,rfl,hi7,hb7,hg7⟩
   have hi7:IntB w7 b7 (Fi (accQ L (r*5+4) 0) (E4 L r)):=hi7
   have HI7:=Ac hi7
   have HG7:=Ac hg7
   clear hi7 hb7 hg7 hEc hF hmap
   go_wp2_with fail
   refine (E6 w7 b7 0 _ HI7.out.at (Nat.le_trans HLW.out (by omega))).mono ?_
   rintro e w8 ⟨vk,rfl,hn8,hf8,hg8⟩
   rw [HKZ.out] at hn8
   rw [HKZ.out]
   obtain ⟨Ak,nk,ck,rfl⟩:=hn8.ctor
   have HG8:=Ac (Ae HG7.out hg8)
   have HN8:=Ac hn8
   have hblk:=HBR.out.more HG8.out
   obtain ⟨r0,r1,r2,r3,r4,r5,r6⟩:=hblk.seven
   have z5:=hblk.free 5
   have z6:=hblk.free 6
   have hg9:w8.grownBy ((w8.setCell ⟨tb,5,none⟩ (.bool (decide (kOf L r<0)))).setCell ⟨tb,6,none⟩ (.slice Ak nk ck)) (some tb):=Ae (Au _ _ _ _) (Au _ _ _ _)
   have hpt:Dt w8 tb:=by
    obtain ⟨T,hb⟩:=hblk
    refine C1 hb ?_
    intro u hu n
    simp only [List.mem_cons,List.not_mem_nil,or_false] at hu
    rcases hu with rfl | rfl | rfl | rfl | rfl | rfl | rfl<;>simp
   have h59:=Aw (Ae HGR5.out HG8.out) hg9 (Nat.le_of_eq HTB.out)
   have HN6:=Ac (HN5.out.more h59)
   have HA6:=Ac (HC3''.out.more h59)
   have HH6:=Ac (HC4'.out.more h59)
   have HS6:=Ac (HC5.out.more h59)
   have HNK:=Ac (HN8.out.other hg9 hpt)
   have hstb:s≠tb:=by omega
   have HSB:=Ac ((HSB.out.more HG8.out).other hg9 hstb)
   have HGR:=Ac (Ae HG5.out h59)
   clear hpt h59 hg9 hblk HKZ hf8 hn8 hg8
   obtain ⟨x0,x1,x2,x3,x4,x5,x6⟩:=HSB.out.seven
   have y0:=HSB.out.free 0
   have y1:=HSB.out.free 1
   have y2:=HSB.out.free 2
   have y3:=HSB.out.free 3
   have y4:=HSB.out.free 4
   have y5:=HSB.out.free 5
   have y6:=HSB.out.free 6
   go_wp2_with fail
   try simp only [Exit.inBlock,Exit.then]
   have hgf:((w8.setCell ⟨tb,5,none⟩ (.bool (decide (kOf L r<0)))).setCell ⟨tb,6,none⟩ (.slice Ak nk ck)).grownBy (((((((((w8.setCell ⟨tb,5,none⟩ (.bool (decide (kOf L r<0)))).setCell ⟨tb,6,none⟩ (.slice Ak nk ck)).setCell ⟨s,0,none⟩ (.bool mn)).setCell ⟨s,1,none⟩ (.slice Am nm cm)).setCell ⟨s,2,none⟩ (.slice Aa (Bb L r 1).length ca)).setCell ⟨s,3,none⟩ (.slice Ah (Bb L r 2).length ch)).setCell ⟨s,4,none⟩ (.slice As (Bb L r 3).length cs)).setCell ⟨s,5,none⟩ (.bool (decide (kOf L r<0)))).setCell ⟨s,6,none⟩ (.slice Ak nk ck)) (some s):=Ae (Ae (Ae (Ae (Ae (Ae (Au _ _ _ _) (Au _ _ _ _)) (Au _ _ _ _)) (Au _ _ _ _)) (Au _ _ _ _)) (Au _ _ _ _)) (Au _ _ _ _)
   have hpl:=Il HSB.out
   have hsf:=M6 HSB.out
   have hsy:=StayR.row hgf hsf
   refine bodyPost_ret (v:=.agg #[.bool mn,.slice Am nm cm,.slice Aa (Bb L r 1).length ca,.slice Ah (Bb L r 2).length ch,.slice As (Bb L r 3).length cs,.bool (decide (kOf L r<0)),.slice Ak nk ck]) (by simp [results,Tryz.results59,go_sem, *]) rfl ⟨.slice Am nm cm,.slice Aa (Bb L r 1).length ca,.slice Ah (Bb L r 2).length ch,.slice As (Bb L r 3).length cs,.slice Ak nk ck,?_,HN6.out.other hgf hpl,HA6.out.step hsy,HH6.out.step hsy,HS6.out.step hsy,?_,⟨HF3.out,HF4.out,HF5.out⟩,Aw (Ae HGA.out HGR.out) hgf (by have:=HSZ.out;omega)⟩
   ·rw [HR1.out.1,HR1.out.2.1]
    skip
   ·rw [HR1.out.2.2]
    skip;exact HNK.out.other hgf hpl
end
section
open Go.RowKit Go.Maps
open Rat
def I0 (r:RowP) (k:Nat):List CellP:=if k=0 then r.a else if k=1 then r.h else r.s
def Ex (l:List CellP):List Nat:=l.map fun c=>c.limbs.length
def E0 (r:RowP):Nat→List Nat
 | 0=>[r.mlimbs.length,r.klimbs.length]
 | k+1=>E0 r k++Ex (I0 r k)
def LenV (cs:List Value) (n:Nat):Prop:=∃ b A c,cs=[.bool b,.slice A n c]
theorem Sd {l:List CellP} {t:Nat} (h:t<l.length):Ex (l.take (t+1))=Ex (l.take t)++[(l.getD t Br).limbs.length]:=by
 unfold Ex
 rw [List.take_add_one,List.map_append,List.getD_eq_getElem?_getD,List.getElem?_eq_getElem h];rfl
theorem Jy (r:RowP):∀ k,k≤3→(E0 r k).length≤2+r.a.length+r.h.length+r.s.length
 | 0,_=>by simp [E0];omega
 | 1,_=>by simp [E0,Ex,I0];omega
 | 2,_=>by simp [E0,Ex,I0];omega
 | 3,_=>by simp [E0,Ex,I0];omega
def LenRow (w:World) (v:Value) (ns:List Nat):Prop :=
 ∃ A c,v=.slice A ns.length c∧(0<ns.length→∃ b,A=some ⟨b,0,none⟩∧∀ i (hi:i<ns.length),∃ b' A' c',w.cell? ⟨b,i*2,none⟩=some (.bool b')∧w.cell? ⟨b,i*2+1,none⟩=some (.slice A' ns[i] c'))
theorem LenRow.at {w:World} {A:Option Addr} {n c:Nat} {ns:List Nat} (h:LenRow w (.slice A n c) ns) {i:Nat} (hi:i<ns.length):∃ b b' A' c',A=some ⟨b,0,none⟩∧w.cell? ⟨b,i*2,none⟩=some (.bool b')∧w.cell? ⟨b,i*2+1,none⟩=some (.slice A' ns[i] c'):=by
 obtain ⟨A0,c0,e,h1⟩:=h
 injection e with e1 e2 e3
 subst e1
 obtain ⟨b,rfl,h2⟩:=h1 (by omega)
 obtain ⟨b',A',c',u0,u1⟩:=h2 i hi
 exact ⟨b,b',A',c',rfl,u0,u1⟩
theorem LenRow.more {w w':World} {v:Value} {ns:List Nat} (h:LenRow w v ns) (hg:w.grownBy w' none):LenRow w' v ns:=by
 obtain ⟨A0,c0,rfl,h1⟩:=h
 refine ⟨A0,c0,rfl,fun hp=>?_⟩
 obtain ⟨b,rfl,h2⟩:=h1 hp
 refine ⟨b,rfl,fun i hi=>?_⟩
 obtain ⟨b',A',c',u0,u1⟩:=h2 i hi
 exact ⟨b',A',c',Aj hg u0 (by simp),Aj hg u1 (by simp)⟩
theorem OwnQ.count {α:Type} {w:World} {base:Nat} {e:TypeId} {k:Nat} {v:Value} {n:Nat} {xs:List Value} {R:List Value→α→Prop} {L:List α} (h:OwnQ w base e k v n xs) (hi:RecR k R xs L) (hk:0<k):n=L.length:=by
 have h1:=h.1.1
 rw [hi.length] at h1
 exact (Nat.eq_of_mul_eq_mul_right hk h1).symm
theorem OwnQ.lenRow {w:World} {base:Nat} {e:TypeId} {v:Value} {n:Nat} {xs:List Value} {ns:List Nat} (h:OwnQ w base e 2 v n xs) (hi:RecR 2 LenV xs ns) (hn:n=ns.length):LenRow w v ns:=by
 obtain ⟨A,c,rfl,_,_,h3⟩:=h.recs hi hn
 refine ⟨A,c,rfl,fun hp=>?_⟩
 obtain ⟨b,rfl,h4⟩:=h3 hp
 refine ⟨b,rfl,fun i hi=>?_⟩
 obtain ⟨cs,⟨b',A',c',rfl⟩,_,hc⟩:=h4 i hi
 exact ⟨b',A',c',hc 0 (by omega),hc 1 (by omega)⟩
set_option maxRecDepth 100000 in
theorem P3 (w:World) (r:RowP) (mn kn:Bool) (Am Aa Ah As Ak:Option Addr) (cm ca ch cs ck:Nat) (ha:CellRow w (.slice Aa r.a.length ca) r.a) (hh:CellRow w (.slice Ah r.h.length ch) r.h) (hs:CellRow w (.slice As r.s.length cs) r.s)
  (l1:r.a.length≤1000000) (l2:r.h.length≤1000000) (l3:r.s.length≤1000000) :
  Calls Tryz.prog 60 #[.agg #[.bool mn,.slice Am r.mlimbs.length cm,.slice Aa r.a.length ca,.slice Ah r.h.length ch,.slice As r.s.length cs,.bool kn,.slice Ak r.klimbs.length ck]] w fun e w'=>∃ v,e=.returned v∧LenRow w' v (E0 r 3)∧w.grownBy w' none:=by
 have gw:=Af w (.cells #[.bool mn,.slice Am r.mlimbs.length cm,.slice Aa r.a.length ca,.slice Ah r.h.length ch,.slice As r.s.length cs,.bool kn,.slice Ak r.klimbs.length ck] 52) none
 have hB:=Blk.new w #[.bool mn,.slice Am r.mlimbs.length cm,.slice Aa r.a.length ca,.slice Ah r.h.length ch,.slice As r.s.length cs,.bool kn,.slice Ak r.klimbs.length ck] 52
 have hseg:∀ k,k<3→∃ A c,CellRow w (.slice A (I0 r k).length c) (I0 r k)∧(I0 r k).length≤1000000∧∀ W,(Instr.index 231 (.agg #[.slice Aa r.a.length ca,.slice Ah r.h.length ch,.slice As r.s.length cs]) (.int .i64 (k:Int))).run Tryz.prog W=.ok (.slice A (I0 r k).length c) W:=by
  intro k hk
  rcases (show k=0∨k=1∨k=2 by omega) with rfl | rfl | rfl
  ·exact ⟨Aa,ca,ha,l1,fun _=>by kernel_rfl⟩
  ·exact ⟨Ah,ch,hh,l2,fun _=>by kernel_rfl⟩
  ·exact ⟨As,cs,hs,l3,fun _=>by kernel_rfl⟩
 have HSEG:=Ac hseg
 obtain ⟨x0,x1,x2,x3,x4,x5,x6⟩:=hB.seven
 have HB:=Ac hB
 have HGW:=Ac gw
 have HLT:Hid (∀ k,k≤3→(E0 r k).length≤3000002):=Ac fun k hk=>by have:=Jy r k hk;omega
 have HL0:Hid (E0 r 0=[r.mlimbs.length,r.klimbs.length]):=Ac rfl
 clear ha hh hs hseg gw hB
 go_enter Tryz.func60,Tryz.ntmps60
 go_wp2_with fail
 have hsa:(w.alloc (.cells #[.bool mn,.slice Am r.mlimbs.length cm,.slice Aa r.a.length ca,.slice Ah r.h.length ch,.slice As r.s.length cs,.bool kn,.slice Ak r.klimbs.length ck] 52)).heap.size=w.heap.size+1:=by simp
 have HSA:=Ac hsa
 clear hsa
 generalize w.alloc (.cells #[.bool mn,.slice Am r.mlimbs.length cm,.slice Aa r.a.length ca,.slice Ah r.h.length ch,.slice As r.s.length cs,.bool kn,.slice Ak r.klimbs.length ck] 52)=wa at *
 generalize hsz:w.heap.size=s at *
 have HSZ:=Ac hsz
 clear hsz
 have gb:=Af wa (.cells #[.bool mn,.slice Am r.mlimbs.length cm,.bool kn,.slice Ak r.klimbs.length ck] 49) none
 have ho0:OwnQ (wa.alloc (.cells #[.bool mn,.slice Am r.mlimbs.length cm,.bool kn,.slice Ak r.klimbs.length ck] 49)) (s+1) 49 2 (.slice (some ⟨s+1,0,none⟩) 2 2) 2 [.bool mn,.slice Am r.mlimbs.length cm,.bool kn,.slice Ak r.klimbs.length ck]:=by
  have h1:=World.ownsRow_lit (e:=49) (size:=2) (base:=s+1) wa #[.bool mn,.slice Am r.mlimbs.length cm,.bool kn,.slice Ak r.klimbs.length ck] 2 (Nat.le_of_eq HSA.out.symm) (by decide) rfl
  rw [HSA.out] at h1
  refine ⟨h1,fun g hg=>?_⟩
  obtain rfl:s+1=g:=by simpa [Value.ownBlock] using hg
  refine C1 (Gu _ HSA.out.symm) ?_
  intro u hu n
  simp only [List.mem_cons,List.not_mem_nil,or_false] at hu
  rcases hu with rfl | rfl | rfl | rfl<;>simp
 have HO0:=Ac ho0
 have HGB:=Ac gb
 clear ho0 gb
 go_loopw [3,20] (fun bv iv wr=>∃ k:Nat,k≤3∧iv=.int .i64 k∧wa.grownBy wr none∧Hid (∃ (cnt:Nat) (xs:List Value),OwnQ wr (s+1) 49 2 bv cnt xs∧RecR 2 LenV xs (E0 r k))) (fun _ iv _=>(3-intOf iv).toNat)
 case atStart =>
  refine ⟨0,by omega,rfl,HGB.out,Ac ⟨2,_,HO0.out,?_⟩⟩
  rw [HL0.out]
  exact ⟨[.bool mn,.slice Am r.mlimbs.length cm],_,rfl,rfl,⟨_,_,_,rfl⟩,[.bool kn,.slice Ak r.klimbs.length ck],[],rfl,rfl,⟨_,_,_,rfl⟩,rfl⟩
 case round =>
  obtain ⟨k,hk,rfl,hg,hown⟩:=hrel
  by_cases hlt:k<3
  ·obtain ⟨A,c,hrow,hl,hix⟩:=HSEG.out k hlt
   have hlk:=HLT.out (k+1) (by omega)
   have HLK:Hid (E0 r (k+1)=E0 r k++Ex (I0 r k)):=Ac rfl
   rw [HLK.out,List.length_append] at hlk
   have hlo:(Ex (I0 r k)).length=(I0 r k).length:=by simp [Ex]
   rw [hlo] at hlk
   generalize I0 r k=seg at *
   have HROW:=Ac (hrow.more HGW.out)
   have HG:=Ac hg
   have HK3:=Ac hlt
   have HLKK:=Ac hlk
   clear hrow hlo hlk hg
   go_wp2_with fail
   obtain ⟨w5,rfl⟩:∃ w5:World,w5=wr:=⟨_,rfl⟩
   go_loopw [3,25] (fun bv iv wr=>∃ t:Nat,t≤seg.length∧iv=.int .i64 t∧wa.grownBy wr none∧Hid (∃ (cnt:Nat) (xs:List Value),OwnQ wr (s+1) 49 2 bv cnt xs∧RecR 2 LenV xs (E0 r k++Ex (seg.take t)))) (fun _ iv _=>(seg.length-intOf iv).toNat)
   case atStart =>
    obtain ⟨cnt,xs,h1,h2⟩:=hown.out
    exact ⟨0,by omega,rfl,HG.out,Ac ⟨cnt,xs,h1,by simpa [Ex] using h2⟩⟩
   case round =>
    clear hown
    obtain ⟨t,ht,rfl,hg,hown⟩:=hrel
    by_cases htl:t<seg.length
    ·obtain ⟨b,o,A',n',c',rfl,hI,u0,u1,u2,hn⟩:=(HROW.out.more hg).at htl
     have hnn:n'=(seg.getD t Br).limbs.length:=by obtain ⟨_,_,e,_⟩:=hn.form;injection e
     have htake:=Sd htl
     rw [←hnn] at htake
     generalize (seg.getD t Br).col=col at *
     generalize (seg.getD t Br).neg=neg at *
     have gc:=Af wr (.cells #[.int .i64 col,.bool neg,.slice A' n' c'] 55) none
     obtain ⟨m0,m1,m2⟩:=(Blk.new wr #[.int .i64 col,.bool neg,.slice A' n' c'] 55).three
     obtain ⟨cnt,xs,ho1,ho2⟩:=hown.out
     have ho3:=ho1.count ho2 (by omega)
     have HO1:=Ac (ho1.more gc)
     have HO2:=Ac ho2
     have HTK:=Ac htake
     have HTL:=Ac htl
     have HGC:=Ac (Ae hg gc)
     have hcl:cnt≤3000002:=by
      rw [ho3,List.length_append]
      have h5:(Ex (seg.take t)).length≤seg.length:=by simp [Ex];omega
      have:=HLKK.out
      omega
     have hsw:s+1≤(wr.alloc (.cells #[.int .i64 col,.bool neg,.slice A' n' c'] 55)).heap.size:=by
      have h1:=HGC.out.size
      rw [HSA.out] at h1;exact h1
     clear hown ho1 ho2 ho3 hnn hn htake gc hg hI
     go_upto_region 8 with (fail)
     have hzs:wr.heap.size<(wr.alloc (.cells #[.int .i64 col,.bool neg,.slice A' n' c'] 55)).heap.size:=by simp
     generalize wr.alloc (.cells #[.int .i64 col,.bool neg,.slice A' n' c'] 55)=wc at *
     generalize wr.heap.size=sq at *
     go_wp2_with (first
      | (at_builtin;refine Cu (s+1) rfl (.tmp 29) (.tmp 32) 61 49 (.agg #[.bool false,.slice none 0 0]) 2 32 rfl Tryz.underlying61 Ts rfl (by omega) (by omega) u3 cnt xs #[.bool neg,.slice A' n' c'] (by rfl) HO1.out (by rfl) (by rfl) (by simp [Value.oneCell']) (by omega) hsw (L7 _ _ _ _) Mi ?_;intro g cap w7 hown7 hg7;have H7:=Ac (And.intro hown7 hg7);clear hown7 hg7)
      | fail)
     have htl:=HTL.out
     have hgb:wa.grownBy w7 none:=Gt (Ae HGC.out (Af wc (.cells #[.bool neg,.slice A' n' c'] 49) none)) (by rw [HSA.out];exact HO1.out.more (Af _ _ _)) H7.out.2
     exact ⟨⟨.slice (some ⟨g,0,none⟩) (cnt+1) cap,_,_,⟨t+1,by omega,rfl,hgb,Ac ⟨cnt+1,_,H7.out.1,by rw [HTK.out,←List.append_assoc];exact RecR.snoc (k:=2) (ys:=[.bool neg,.slice A' n' c']) rfl ⟨_,_,_,rfl⟩ HO2.out⟩⟩,rfl,rfl,by go_num⟩,by simp [intOf];omega⟩
    ·obtain rfl:t=seg.length:=by omega
     obtain ⟨cnt,xs,h1,h2⟩:=hown.out
     rw [List.take_of_length_le (Nat.le_refl _)] at h2
     have HH:=Ac (And.intro h1 h2)
     clear hown h1 h2
     go_wp2_with fail
     have hk3:=HK3.out
     exact ⟨⟨k+1,by omega,by go_num,hg,Ac ⟨cnt,xs,HH.out.1,by rw [HLK.out];exact HH.out.2⟩⟩,by simp [intOf];omega⟩
  ·obtain rfl:k=3:=by omega
   obtain ⟨cnt,xs,h1,h2⟩:=hown.out
   have HH:=Ac (OwnQ.lenRow h1 h2 (h1.count h2 (by omega)))
   clear hown h1 h2
   go_wp2_with fail
   go_ret
   exact ⟨_,rfl,HH.out,Ae HGW.out hg⟩
end
section
open Go.RowKit
open Rat
def rdV (q:Rat):Int:=Of (decide (q.num<0)) false (digs q.num) (digs (q.den:Int))
def rdE (q:Rat):Int:=Oe (decide (q.num<0)) false (digs q.num) (digs (q.den:Int))
def nano:Rat:=(1000000000:Int) /. 1
def dcE (vals:List (Int × Int)) (step:Int):Int:=if step<0∨1000000000<step then 4 else rdE (numQ (vals.getD 0 (0,0)).1 (vals.getD 0 (0,0)).2*nano)
def dcV (vals:List (Int × Int)) (step:Int):Int:=if step<0∨1000000000<step then 0 else rdV (numQ (vals.getD 0 (0,0)).1 (vals.getD 0 (0,0)).2*nano)
set_option maxRecDepth 100000 in
theorem U8 (w:World) (vv sv:Value) (vals:List (Int × Int)) (steps:List Int) (step:Int) (hv:NumRow w vv vals) (hs:IntRow w sv steps) (hok:Di 1 vals steps) :
  Calls Tryz.prog 85 #[.agg #[.int .i64 1,vv,sv],.int .i64 step] w fun e w'=>e=.returned (.tuple #[.int .i64 (dcV vals step),.int .i64 (dcE vals step)])∧w.grownBy w' none:=by
 have hn:NumOK (vals.getD 0 (0,0)).1 (vals.getD 0 (0,0)).2:=by
  have hl:vals.length=1:=by have:=hok.2.2;unfold Cc at this;rw [if_pos rfl] at this;exact this.1
  have:=hok.1
  rw [List.all_eq_true] at this
  have h0:vals.getD 0 (0,0)=vals[0]:=by rw [List.getD_eq_getElem?_getD,List.getElem?_eq_getElem (by omega)];rfl
  have:=this (vals[0]) (List.getElem_mem _)
  rw [←h0] at this
  simpa [Bu] using this
 have hl:vals.length=1:=by have:=hok.2.2;unfold Cc at this;rw [if_pos rfl] at this;exact this.1
 obtain ⟨E,hE⟩:∃ E,E=dcE vals step:=⟨_,rfl⟩
 obtain ⟨V,hV⟩:∃ V,V=dcV vals step:=⟨_,rfl⟩
 rw [←hE,←hV]
 unfold dcE at hE
 unfold dcV at hV
 have HVE:=Ac hE
 have HVV:=Ac hV
 clear hE hV
 have HWV:=fun (W:World) (hg:w.grownBy W none)=>Ie W 1 vv sv vals steps (hv.more hg) (hs.more hg)
 have hd:decide (Di 1 vals steps)=true:=decide_eq_true hok
 rw [hd] at HWV
 obtain ⟨Av,cv,rfl,_,_,_,hvc⟩:=id hv
 obtain ⟨b,o,hA,hv3⟩:=hvc (by omega)
 subst hA
 obtain ⟨q0,q1⟩:=hv3 0 (by omega)
 obtain ⟨As,cs,rfl,_,_⟩:=hs.ctor
 rw [hl] at *
 clear hvc hv3 hs hd hok hl
 generalize vals.getD 0 (0,0)=p at *
 obtain ⟨m,e⟩:=p
 simp only [Nat.zero_mul,Nat.add_zero] at hn q0 q1 HVE HVV
 have gw:=Af w (.cells #[.int .i64 1,.slice (some ⟨b,o,none⟩) 1 cv,.slice As steps.length cs] 85) none
 have hB:=Blk.new w #[.int .i64 1,.slice (some ⟨b,o,none⟩) 1 cv,.slice As steps.length cs] 85
 have HW:=Ac (HWV _ gw)
 have HN:=Ac hn
 have q0:=Aj gw q0 (by simp)
 have q1:=Aj gw q1 (by simp)
 have m0:=hB.cell 0
 have m1:=hB.cell 1
 have m2:=hB.cell 2
 simp only [List.getElem?_toArray,List.getElem?_cons_zero,List.getElem?_cons_succ] at m0 m1 m2
 have HGW:=Ac gw
 clear HWV hn gw
 go_enter Tryz.func85,Tryz.ntmps85
 go_wp2_with fail
 generalize w.alloc (.cells #[.int .i64 1,.slice (some ⟨b,o,none⟩) 1 cv,.slice As steps.length cs] 85)=wa at *
 generalize w.heap.size=s at *
 refine HW.out.mono ?_
 rintro e' w1 ⟨rfl,hg1⟩
 have q0:=Aj hg1 q0 (by simp)
 have q1:=Aj hg1 q1 (by simp)
 have m0:=Aj hg1 m0 (by simp)
 have m1:=Aj hg1 m1 (by simp)
 have m2:=Aj hg1 m2 (by simp)
 have HG1:=Ac (Ae HGW.out hg1)
 clear hg1 hB HW
 by_cases h1:step<0
 ·have HE:=Ac (And.intro (HVE.out.trans (if_pos (.inl h1))) (HVV.out.trans (if_pos (.inl h1))))
  go_wp2_with fail
  go_ret2
  rw [HE.out.1,HE.out.2]
  exact ⟨rfl,HG1.out⟩
 ·by_cases h2:1000000000<step
  ·have HE:=Ac (And.intro (HVE.out.trans (if_pos (.inr h2))) (HVV.out.trans (if_pos (.inr h2))))
   go_wp2_with fail
   go_ret2
   rw [HE.out.1,HE.out.2]
   exact ⟨rfl,HG1.out⟩
  ·have HE:=Ac (And.intro (HVE.out.trans (if_neg (fun h=>h.elim h1 h2))) (HVV.out.trans (if_neg (fun h=>h.elim h1 h2))))
   go_wp2_with fail
   refine (Rb w1 m e HN.out).mono ?_
   rintro e' w2 ⟨b2,rfl,hr2,hb2,hg2⟩
   have HR2:=Ac hr2
   have HG2:=Ac (Ae HG1.out hg2)
   have HB2:=Ac (Nat.le_trans HG1.out.size hb2)
   clear q0 q1 m0 m1 m2 hr2 hb2 hg2
   go_wp2_with fail
   refine (F7 w2 1000000000 1 (by omega) (by omega) (by omega) (by omega) (by omega)).mono ?_
   rintro e' w3 ⟨b3,rfl,hr3,hb3,hg3⟩
   have HR3:=Ac hr3
   have HG3:=Ac hg3
   clear hr3 hb3 hg3
   go_wp2_with fail
   refine (Gl w3 b2 b2 b3 _ _ _ (HR2.out.more HG3.out) (HR2.out.more HG3.out) HR3.out 3 (by omega) (Ba HN.out) (by refine LimQ.divInt (by omega) ?_ ?_<;>exact Nat.le_trans (Hv (by decide)) (by omega))).mono ?_
   rintro e' w4 ⟨rfl,hr4,hg4⟩
   have HR4:=Ac hr4
   have HG4:=Ac (Aw (Ae HG2.out HG3.out) hg4 HB2.out)
   have hlq:LimQ (numQ m e*(1000000000 /. 1)) 1099511627776:=(LimQ.mul (Ba HN.out) (show LimQ ((1000000000:Int) /. 1) 3 from by refine LimQ.divInt (by omega) ?_ ?_<;>exact Nat.le_trans (Hv (by decide)) (by omega))).mono (by omega)
   have HLQ:=Ac hlq
   clear hr4 hg4 hlq
   go_wp2_with fail
   refine (E7 w4 b2 _ HR4.out HLQ.out).mono ?_
   rintro e' w5 ⟨v1,v2,rfl,hn1,hn2,_,_,hg5⟩
   obtain ⟨A1,n1,c1,rfl⟩:=hn1.ctor
   obtain ⟨A2,n2,c2,rfl⟩:=hn2.ctor
   have HN1:=Ac hn1
   have HN2:=Ac hn2
   have HG5:=Ac (Ae HG4.out hg5)
   clear hn1 hn2 hg5
   go_wp2_with fail
   refine (Rq w5 _ _ _ _ _ _ HN1.out HN2.out).mono ?_
   rintro e' w6 ⟨rfl,hg6⟩
   go_wp2_with fail
   go_ret2
   rw [HE.out.1,HE.out.2]
   exact ⟨rfl,Ae HG5.out hg6⟩
end
section
open Go.RowKit Go.Maps
open Rat
def C6 (St:Nat→List StampP):Nat→List StampP
 | 0=>[]
 | k+1=>C6 St k++St k
def H8 (L:List StampP) (n:Nat):List RowP:=(List.range n).map (Dk L)
def It (L:List StampP) (r:Nat):Bool:=(E0 (Dk L r) 3).all fun x=>decide (x≤72)
def Fm (L:List StampP) (n:Nat):Int:=if ∀ r,r<n→It L r=true then 0 else 13
def G1 (L:List StampP) (n:Nat):List RowP:=if Fm L n=0 then H8 L n else []
theorem Ye {L:List StampP} {n k:Nat} (hk:k<n) (h:It L k=false):Fm L n=13∧G1 L n=[]:=by
 have h1:Fm L n=13:=by unfold Fm;rw [if_neg];intro hh;rw [hh k hk] at h;cases h
 exact ⟨h1,by unfold G1;rw [h1];rfl⟩
theorem Yf {L:List StampP} {n:Nat} (h:∀ r,r<n→It L r=true):Fm L n=0∧G1 L n=H8 L n:=by
 have h1:Fm L n=0:=by unfold Fm;rw [if_pos h]
 exact ⟨h1,by unfold G1;rw [if_pos h1]⟩
theorem SysRow.nil (w:World):SysRow w (.slice none 0 0) []:=⟨none,0,rfl,by simp,by omega,fun h=>by simp at h⟩
theorem K2 (L:List StampP) (n:Nat):(H8 L n).length=n:=by simp [H8]
theorem Sy (L:List StampP) (n:Nat):H8 L (n+1)=H8 L n++[Dk L n]:=by simp [H8,List.range_succ]
theorem Ng (St:Nat→List StampP) (k:Nat):∀ d,(C6 St k).length≤(C6 St (k+d)).length
 | 0=>Nat.le_refl _
 | d+1=>by have:=Ng St k d;rw [←Nat.add_assoc,C6,List.length_append];omega
theorem Jn {St:Nat→List StampP} {x:StampP}:∀ {k:Nat},x∈C6 St k→∃ j,j<k∧x∈St j
 | 0,h=>by simp [C6] at h
 | k+1,h=>by
  rcases List.mem_append.1 h with h | h
  ·obtain ⟨j,hj,hx⟩:=Jn h;exact ⟨j,by omega,hx⟩
  ·exact ⟨k,by omega,h⟩
theorem Tl {St:Nat→List StampP} {D M k t:Nat} (hM:(C6 St D).length≤M) (hk:k<D) (ht:t≤(St k).length):(C6 St k++(St k).take t).length≤M:=by
 have h1:=Ng St (k+1) (D-(k+1))
 rw [show k+1+(D-(k+1))=D by omega,C6,List.length_append] at h1
 rw [List.length_append,List.length_take]
 omega
def RowW (w:World) (cs:List Value) (r:RowP):Prop :=
 ∃ vm va vh vs vk,cs=[.bool r.mneg,vm,va,vh,vs,.bool r.kneg,vk]∧Nums w vm r.mlimbs∧Stab (fun w'=>CellRow w' va r.a) w∧Stab (fun w'=>CellRow w' vh r.h) w∧Stab (fun w'=>CellRow w' vs r.s) w∧Nums w vk r.klimbs
theorem RowW.step {w w':World} {cs:List Value} {r:RowP} (h:RowW w cs r) (hs:StayR w w'):RowW w' cs r:=by
 obtain ⟨vm,va,vh,vs,vk,e,h1,h2,h3,h4,h5⟩:=h
 exact ⟨vm,va,vh,vs,vk,e,hs.nums _ _ h1,h2.step hs,h3.step hs,h4.step hs,hs.nums _ _ h5⟩
theorem RowW.v {w:World} {cs:List Value} {r:RowP} (h:RowW w cs r):RowV w cs r:=by
 obtain ⟨vm,va,vh,vs,vk,e,h1,h2,h3,h4,h5⟩:=h
 exact ⟨vm,va,vh,vs,vk,e,h1,h2.here,h3.here,h4.here,h5⟩
theorem OwnQ.sysRow {w:World} {base:Nat} {e:TypeId} {v:Value} {n:Nat} {xs:List Value} {L:List RowP} (h:OwnQ w base e 7 v n xs) (hi:RecR 7 (RowW w) xs L):SysRow w v L:=by
 obtain ⟨A,c,rfl,h1,h2,h3⟩:=h.recs hi (h.count hi (by omega))
 refine ⟨A,c,rfl,h1,h2,fun hp=>?_⟩
 obtain ⟨b,rfl,h4⟩:=h3 hp
 refine ⟨b,0,rfl,fun i hi=>?_⟩
 obtain ⟨cs,hr,_,hc⟩:=h4 i hi
 refine ⟨cs,by rw [List.getD_eq_getElem?_getD,List.getElem?_eq_getElem hi];exact hr.v,fun j hj=>?_⟩
 rw [Nat.zero_add];exact hc j hj
def SysRowW (w:World) (lo:Nat) (v:Value) (L:List RowP):Prop:=∃ base e n xs,lo≤base∧OwnQ w base e 7 v n xs∧RecR 7 (RowW w) xs L
theorem SysRowW.row {w:World} {lo:Nat} {v:Value} {L:List RowP} (h:SysRowW w lo v L):SysRow w v L:=by
 obtain ⟨base,e,n,xs,_,h1,h2⟩:=h
 exact h1.sysRow h2
theorem SysRowW.nil (w:World) (lo:Nat):SysRowW w lo (.slice none 0 0) []:=⟨lo,0,0,[],Nat.le_refl _,OwnQ.nil _ _ _ _,RecR.nil _ _⟩
theorem OwnQ.softRow {w:World} {base:Nat} {e:TypeId} {v:Value} {n:Nat} {xs:List Value} {L:List RowP} {R:List Value→RowP→Prop} (h:OwnQ w base e 7 v n xs) (hi:RecR 7 R xs L) (hR:∀ cs r,R cs r→∃ b,cs[0]? = some (.bool b)):∀ g,v.ownBlock=some g→0<n→Soft w g:=by
 intro g hg hn
 refine ⟨h.2 g hg,fun m=>?_⟩
 have hcnt:=h.count hi (by omega)
 obtain ⟨cs,hr,hl,hc⟩:=hi.at 0 (by omega)
 obtain ⟨b,hb⟩:=hR cs _ hr
 have h0:=hc 0 (by omega)
 rw [Nat.zero_mul,hb] at h0
 have:=h.1.cells (g:=g) hg 0 _ h0
 have e:(⟨g,0,none⟩:Addr).add 0=⟨g,0,none⟩:=Me g 0
 rw [e] at this
 rw [this];simp
theorem StampRow.stay {w w':World} {v:Value} {L:List StampP} (h:StampRow w v L) (hs:StayR w w'):StampRow w' v L:=by
 obtain ⟨A,c,rfl,h1⟩:=h
 refine ⟨A,c,rfl,fun hp=>?_⟩
 obtain ⟨b,rfl,h2⟩:=h1 hp
 obtain ⟨cs0,⟨_,_,_,_,_,_,_,_,_,rfl,_⟩,hc0⟩:=h2 0 hp
 have hz:w.cell? ⟨b,0,none⟩=some (.int .i64 L[0].kind):=by have:=hc0 0 (by omega);rw [Nat.zero_mul] at this;exact this
 refine ⟨b,rfl,fun i hi=>?_⟩
 obtain ⟨cs,⟨a1,a2,a3,A1,n1,c1,A2,n2,c2,rfl,hn1,hn2⟩,hc⟩:=h2 i hi
 refine ⟨_,⟨a1,a2,a3,A1,n1,c1,A2,n2,c2,rfl,hs.nums _ _ hn1,hs.nums _ _ hn2⟩,fun j hj=>?_⟩
 have h3:=hc j hj
 have hl:j < [Value.int .i64 L[i].kind,.int .i64 L[i].row,.int .i64 L[i].col,.bool (decide (L[i].val.num<0)),.slice A1 n1 c1,.bool false,.slice A2 n2 c2].length:=hj
 rw [List.getElem?_eq_getElem hl] at h3 ⊢
 exact hs.ints b _ _ _ hz h3
theorem StampRow.at {w:World} {A:Option Addr} {n c:Nat} {L:List StampP} (h:StampRow w (.slice A n c) L) {i:Nat} (hi:i<L.length):∃ b A1 n1 c1 A2 n2 c2,A=some ⟨b,0,none⟩∧I64 L[i].col∧
  w.cell? ⟨b,i*7,none⟩=some (.int .i64 L[i].kind)∧w.cell? ⟨b,i*7+1,none⟩=some (.int .i64 L[i].row)∧w.cell? ⟨b,i*7+2,none⟩=some (.int .i64 L[i].col)∧w.cell? ⟨b,i*7+3,none⟩=some (.bool (decide (L[i].val.num<0)))∧
  w.cell? ⟨b,i*7+4,none⟩=some (.slice A1 n1 c1)∧w.cell? ⟨b,i*7+5,none⟩=some (.bool false)∧w.cell? ⟨b,i*7+6,none⟩=some (.slice A2 n2 c2)∧Nums w (.slice A1 n1 c1) (digs L[i].val.num)∧Nums w (.slice A2 n2 c2) (digs (L[i].val.den:Int)):=by
 obtain ⟨A',c',e,h1⟩:=h
 injection e with e1 e2 e3
 subst e1
 obtain ⟨b,rfl,h2⟩:=h1 (by omega)
 obtain ⟨cs,⟨a1,a2,a3,A1,n1,c1,A2,n2,c2,rfl,hn1,hn2⟩,hc⟩:=h2 i hi
 exact ⟨b,A1,n1,c1,A2,n2,c2,rfl,a3,hc 0 (by omega),hc 1 (by omega),hc 2 (by omega),hc 3 (by omega),hc 4 (by omega),hc 5 (by omega),hc 6 (by omega),hn1,hn2⟩
theorem A0x:(Tryz.prog.info? 52).map (fun i=>(i.zero,i.size,i.bytes))=some (some (.agg #[.bool false,.slice none 0 0,.slice none 0 0,.slice none 0 0,.slice none 0 0,.bool false,.slice none 0 0]),7,136):=by kernel_rfl
theorem Sz:NoD (Value.agg #[.bool false,.slice none 0 0,.slice none 0 0,.slice none 0 0,.slice none 0 0,.bool false,.slice none 0 0]).cells.toList:=by
 intro u hu n
 simp [Value.cells] at hu
 rcases hu with rfl | rfl | rfl | rfl<;>simp
theorem R4 (b1 b2:Bool) (A1 A2 A3 A4 A5:Option Addr) (n1 n2 n3 n4 n5 k1 k2 k3 k4 k5:Nat):NoD (#[Value.bool b1,.slice A1 n1 k1,.slice A2 n2 k2,.slice A3 n3 k3,.slice A4 n4 k4,.bool b2,.slice A5 n5 k5]).toList:=by
 intro u hu n
 simp only [List.mem_cons,List.not_mem_nil,or_false] at hu
 rcases hu with rfl | rfl | rfl | rfl | rfl | rfl | rfl<;>simp
theorem Yd (b1 b2:Bool) (A1 A2 A3 A4 A5:Option Addr) (n1 n2 n3 n4 n5 k1 k2 k3 k4 k5:Nat) (W:World):(Instr.buildSlice 36 1 #[(0,Value.agg #[Value.bool b1,.slice A1 n1 k1,.slice A2 n2 k2,.slice A3 n3 k3,.slice A4 n4 k4,.bool b2,.slice A5 n5 k5])]).run Tryz.prog W=.ok (.slice (some ⟨W.heap.size,0,none⟩) 1 1) (W.alloc (.cells #[Value.bool b1,.slice A1 n1 k1,.slice A2 n2 k2,.slice A3 n3 k3,.slice A4 n4 k4,.bool b2,.slice A5 n5 k5] 52)):=by kernel_rfl
theorem A05 {w:World} {b:Nat} {A:Option Addr} {n c:Nat} (h:Blk w b #[.slice A n c]):Soft w b:=by
 refine ⟨?_,fun n=>by rw [h.cell 0];simp⟩
 obtain ⟨T,hb⟩:=h
 refine C1 hb ?_
 intro u hu n
 simp at hu
 subst hu;simp
theorem K5 {P:Program} {w:World} {ops:Array Oper} {rest:List Oper} {o:Oper} {a:Act} {Q:Exit→Act→World→Prop} (hg:o.guard=none) (t e:TypeId) (x:Operand) (hop:o.op=Op.buildSlice t 1 #[(0,x)])
  (cs:Array Value) (hx:a.eval x=.agg cs) (hrun:∀ W:World,(Instr.buildSlice t 1 #[(0,Value.agg cs)]).run P W=.ok (.slice (some ⟨W.heap.size,0,none⟩) 1 1) (W.alloc (.cells cs e)))
  (hK:wpList P ops Q rest (a.put o.dst (.slice (some ⟨w.heap.size,0,none⟩) 1 1)) (w.alloc (.cells cs e))):wpList P ops Q (o::rest) a w:=by
 refine wpList_plain hg fun K' hK'=>?_
 unfold Oper.wp
 simp [execOp,hop,hx,hrun,Result.andThen]
 exact hK' _ _ hK
theorem Wz (W:World) (n:Nat) (hn:n≤48) :
  (Instr.makeSlice 123 (.int .i64 (n:Int)) (.int .i64 (n:Int))).run Tryz.prog W=.ok (.slice (some ⟨W.heap.size,0,none⟩) n n) (W.alloc (.cells (Array.replicate (n*5) (Value.map none)) 132)):=by
 have hz:(Tryz.prog.info? 132).map (fun i=>(i.zero,i.size,i.bytes))=some (some (.agg #[.map none,.map none,.map none,.map none,.map none]),5,40):=by kernel_rfl
 obtain ⟨i0,hi,hzz⟩:=Option.map_eq_some_iff.1 hz
 simp only [Prod.mk.injEq] at hzz
 obtain ⟨hz0,hz1,hz2⟩:=hzz
 have h:=run_make (P:=Tryz.prog) (w:=W) 123 132 i0 _ Tryz.underlying123 hi hz0 .i64 .i64 (n:Int) (n:Int) (by omega) (Int.le_refl _) (by rw [hz2];omega) (by omega)
 rw [show ((n:Int)).toNat=n by omega,hz1] at h
 have e:madeCells (Value.agg #[.map none,.map none,.map none,.map none,.map none]).cells (n*5)=Array.replicate (n*5) (Value.map none):=by
  apply Array.ext
  ·simp [madeCells]
  ·intro i h1 h2
   have h3:i % 5<5:=Nat.mod_lt _ (by omega)
   rcases (show i % 5=0∨i % 5=1∨i % 5=2∨i % 5=3∨i % 5=4 by omega) with h | h | h | h | h<;>simp [madeCells,Value.cells,h]
 rw [e] at h
 exact h
theorem Xq (W:World) (n:Nat) (T:TypeId):SumsS (W.alloc (.cells (Array.replicate (n*5) (Value.map none)) T)) W.heap.size W.heap.size n []:=by
 have he:(Array.replicate (n*5) (Value.map none))=((List.replicate (n*5) (none:Option Nat)).map Value.map).toArray:=by apply Array.ext';simp
 rw [he]
 refine ⟨List.replicate (n*5) none,fun _ _=>none,by simp,⟨Nat.le_refl _,⟨T,Bi _ _⟩,fun i mb h=>?_,fun _ _ _=>rfl,fun _ _ _=>rfl,fun _ _ _ _ h=>(by cases h),fun i j mb h=>?_,fun _ _ _ _ _ _ _ h=>(by cases h)⟩,fun i c=>by simp [hasQ]⟩
 ·rw [List.getElem?_replicate] at h;split at h<;>simp at h
 ·rw [List.getElem?_replicate] at h;split at h<;>simp at h
theorem B5 (w:World) (f:Bf) (A1:Option Addr) (c1:Nat) (A2:Option Addr) (c2:Nat) (A:Option Addr) (c:Nat) :
  Calls Tryz.prog 55 #[.agg #[.slice A1 f.nodes.length c1,.slice A2 f.devs.length c2,.int .i64 f.step.1,.int .i64 f.step.2,.int .i64 f.method],.slice A 0 c,.slice none 0 0] w fun e w'=>e=.returned (.bool true)∧w.grownBy w' none:=by
 go_enter Tryz.func55,Tryz.ntmps55
 go_wp2_with fail
 refine wp_loop_rounds 1 ?_
 rw [rounds_succ]
 go_wp2_with fail
 go_ret
 exact ⟨rfl,Af _ _ _⟩
end
end Go.Proofs.YtckbiimikeiejaaGreatDoor
