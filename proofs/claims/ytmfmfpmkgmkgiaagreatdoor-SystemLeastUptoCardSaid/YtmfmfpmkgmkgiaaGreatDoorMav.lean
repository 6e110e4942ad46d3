/- Contracts of the program's functions, and what they rest on: SumG SumH SumI. -/
import Derived.Test.YtmfmfpmkgmkgiaaGreatDoorMau
import Derived.Deep.Cut
import Derived.Test.YtmfmfpmkgmkgiaaGreatDoorMal
set_option linter.unusedVariables false
set_option linter.unusedSimpArgs false
namespace Go.Proofs.YtmfmfpmkgmkgiaaGreatDoor
open Go.RowKit Go.Maps
open Rat
def kOf (L : List StampP) (r : Nat) : Int := wholeZ (accQ L (r * 5 + 4) 0) (multL L r)
def cellsK (L : List StampP) (r k : Nat) : List CellP := (cellsL L (r * 5 + k) (multL L r)).map cellZ
def rowOf (L : List StampP) (r : Nat) : RowP := ⟨decide (((multL L r : Nat) : Int) < 0), digs (multL L r : Nat), cellsK L r 1, cellsK L r 2, cellsK L r 3, decide (kOf L r < 0), digs (kOf L r)⟩
theorem wholeZ_zero (m : Nat) : wholeZ 0 m = 0 := by unfold wholeZ; simp

theorem row0_plain {w : World} {s : Nat} (h : Blk w s #[.bool false, .slice none 0 0, .slice none 0 0, .slice none 0 0, .slice none 0 0, .bool false, .slice none 0 0]) : Plain w s := by
  obtain ⟨T, h⟩ := h
  refine plain_of_heap h ?_
  intro u hu n
  simp at hu
  rcases hu with rfl | rfl | rfl | rfl <;> simp
theorem row0_soft {w : World} {s : Nat} (h : Blk w s #[.bool false, .slice none 0 0, .slice none 0 0, .slice none 0 0, .slice none 0 0, .bool false, .slice none 0 0]) : Soft w s := ⟨row0_plain h, fun n => by rw [h.cell 0]; simp⟩
set_option maxRecDepth 100000 in
set_option maxHeartbeats 40000000 in
theorem srow_calls (w : World) (base rb n r K : Nat) (L : List StampP) (hS : SumsS w base rb n L) (hrn : r < n) (hL : LimL L K) (hkb : L.length * (K + 2) + 1 ≤ 200000000) (hll : L.length ≤ 1000000) :
    Calls Tryz.prog 46 #[.pointer (some ⟨rb, r * 5, none⟩)] w fun e w' => ∃ vm va vh vs vk, e = .returned (.agg #[.bool (rowOf L r).mneg, vm, va, vh, vs, .bool (rowOf L r).kneg, vk]) ∧ Nums w' vm (rowOf L r).mlimbs ∧ Stab (fun w' => CellRow w' va (rowOf L r).a) w' ∧ Stab (fun w' => CellRow w' vh (rowOf L r).h) w' ∧ Stab (fun w' => CellRow w' vs (rowOf L r).s) w' ∧ Nums w' vk (rowOf L r).klimbs ∧
      ((rowOf L r).a.length ≤ L.length ∧ (rowOf L r).h.length ≤ L.length ∧ (rowOf L r).s.length ≤ L.length) ∧ w.grownBy w' none := by
  have ga := gb_alloc w (.cells #[.bool false, .slice none 0 0, .slice none 0 0, .slice none 0 0, .slice none 0 0, .bool false, .slice none 0 0] 52) none
  have hB := Blk.new w #[.bool false, .slice none 0 0, .slice none 0 0, .slice none 0 0, .slice none 0 0, .bool false, .slice none 0 0] 52
  have HB := Lib.hid hB
  have HS := Lib.hid (hS.more ga)
  have HL := Lib.hid hL
  have HGA := Lib.hid ga
  have hml := multL_lim hL r
  have HML : Hid (lim ((multL L r : Nat) : Int) ≤ 200000000) := Lib.hid (Nat.le_trans hml (by rw [Nat.mul_add] at hkb; omega))
  have HKB := Lib.hid hkb
  clear hS hL ga hB hml hkb
  go_enter Tryz.func46, Tryz.ntmps46
  go_wp2_with fail
  have hsa : (w.alloc (.cells #[.bool false, .slice none 0 0, .slice none 0 0, .slice none 0 0, .slice none 0 0, .bool false, .slice none 0 0] 52)).heap.size = w.heap.size + 1 := by simp
  have HSA := Lib.hid hsa
  clear hsa
  generalize w.alloc (.cells #[.bool false, .slice none 0 0, .slice none 0 0, .slice none 0 0, .slice none 0 0, .bool false, .slice none 0 0] 52) = wa at *
  generalize hsz : w.heap.size = s at *
  have HSZ := Lib.hid hsz
  clear hsz
  refine (smult_calls wa base rb n r K L HS.out hrn HL.out (Nat.le_trans HKB.out (by omega))).mono ?_
  rintro e w1 ⟨bm, rfl, hi1, hb1, hg1⟩
  have HI1 := Lib.hid hi1
  have HG1 := Lib.hid hg1
  clear hi1 hb1 hg1
  go_wp2_with fail
  refine (Give_calls w1 bm 0 _ HI1.out.at (Nat.le_trans HML.out (by omega))).mono ?_
  rintro e w2 ⟨vm, rfl, hn2, hf2, hg2⟩
  obtain ⟨Am, nm, cm, rfl⟩ := hn2.ctor
  have HN2 := Lib.hid hn2
  have HG2 := Lib.hid (gb_trans HG1.out hg2)
  have HI2 := Lib.hid (HI1.out.more hg2)
  clear hn2 hf2 hg2
  go_wp2_with fail
  refine (scells_calls w2 base rb n r 1 K bm (multL L r) L (HS.out.more HG2.out) hrn (by omega) HL.out HKB.out hll HI2.out HML.out).mono ?_
  rintro e w3 ⟨va, rfl, hc3, hf3, hg3⟩
  have HC3 := Lib.hid (show Stab (fun w' => CellRow w' va (cellsK L r 1)) w3 from hc3)
  have HF3 := Lib.hid (show (cellsK L r 1).length ≤ L.length from by unfold cellsK; rw [List.length_map]; exact hf3)
  have HG3 := Lib.hid (gb_trans HG2.out hg3)
  have HI3 := Lib.hid (HI2.out.more hg3)
  have HN3 := Lib.hid (HN2.out.more hg3)
  clear hc3 hf3 hg3
  go_wp2_with fail
  refine (scells_calls w3 base rb n r 2 K bm (multL L r) L (HS.out.more HG3.out) hrn (by omega) HL.out HKB.out hll HI3.out HML.out).mono ?_
  rintro e w4 ⟨vh, rfl, hc4, hf4, hg4⟩
  have HC4 := Lib.hid (show Stab (fun w' => CellRow w' vh (cellsK L r 2)) w4 from hc4)
  have HF4 := Lib.hid (show (cellsK L r 2).length ≤ L.length from by unfold cellsK; rw [List.length_map]; exact hf4)
  have HG4 := Lib.hid (gb_trans HG3.out hg4)
  have HI4 := Lib.hid (HI3.out.more hg4)
  have HN4 := Lib.hid (HN3.out.more hg4)
  have HC3' := Lib.hid (HC3.out.more hg4)
  clear hc4 hf4 hg4
  go_wp2_with fail
  refine (scells_calls w4 base rb n r 3 K bm (multL L r) L (HS.out.more HG4.out) hrn (by omega) HL.out HKB.out hll HI4.out HML.out).mono ?_
  rintro e w5 ⟨vs, rfl, hc5, hf5, hg5⟩
  have HC5 := Lib.hid (show Stab (fun w' => CellRow w' vs (cellsK L r 3)) w5 from hc5)
  have HF5 := Lib.hid (show (cellsK L r 3).length ≤ L.length from by unfold cellsK; rw [List.length_map]; exact hf5)
  have HG5 := Lib.hid (gb_trans HG4.out hg5)
  have HI5 := Lib.hid (HI4.out.more hg5)
  have HN5 := Lib.hid (HN4.out.more hg5)
  have HC3'' := Lib.hid (HC3'.out.more hg5)
  have HC4' := Lib.hid (HC4.out.more hg5)
  clear hc5 hf5 hg5
  obtain ⟨Aa, ca, rfl, _⟩ := HC3''.out.here.ctor
  obtain ⟨Ah, ch, rfl, _⟩ := HC4'.out.here.ctor
  obtain ⟨As, cs, rfl, _⟩ := HC5.out.here.ctor
  obtain ⟨ms, E, hms, hE, hsnd⟩ := HS.out
  have hil : r * 5 + 4 < ms.length := by omega
  obtain ⟨om, hmo⟩ : ∃ o, ms[r * 5 + 4]? = some o := ⟨_, List.getElem?_eq_getElem hil⟩
  have gr := gb_alloc w5 (.cells #[.bool (decide (((multL L r : Nat) : Int) < 0)), .slice Am nm cm, .slice Aa (cellsK L r 1).length ca, .slice Ah (cellsK L r 2).length ch, .slice As (cellsK L r 3).length cs, .bool false, .slice none 0 0] 52) none
  have hBR := Blk.new w5 #[.bool (decide (((multL L r : Nat) : Int) < 0)), .slice Am nm cm, .slice Aa (cellsK L r 1).length ca, .slice Ah (cellsK L r 2).length ch, .slice As (cellsK L r 3).length cs, .bool false, .slice none 0 0] 52
  have hE6 := hE.more (gb_trans HG5.out gr)
  have hcell := hE6.cell hmo
  have i0 : I64 0 := ⟨by decide, by decide⟩
  have hl0 := fun W : World => (look_none W i0).1
  have HE6 := Lib.hid hE6
  have HGR := Lib.hid (gb_trans HG5.out gr)
  have HMO := Lib.hid hmo
  have HSND := Lib.hid hsnd
  have HBR := Lib.hid hBR
  have HN6 := Lib.hid (HN5.out.more gr)
  have HI6 := Lib.hid (HI5.out.more gr)
  have HA6 := Lib.hid (HC3''.out.more gr)
  have HH6 := Lib.hid (HC4'.out.more gr)
  have HS6 := Lib.hid (HC5.out.more gr)
  have hHSB := HB.out.more (gb_trans HG5.out gr)
  have HSB := Lib.hid hHSB
  have hst := hHSB.lt
  have HGR5 := Lib.hid gr
  clear HI5 HC3' HC3 HC4 HN4 HN3 HN2 HI4 HI3 HI2 HI1 HG1 HG2 HG3 HG4 HB hHSB hE6 hE hmo hsnd gr
  have HM : Hid (((multL L r : Nat) : Int) = ((multL L r : Nat) : Int)) := Lib.hid rfl
  have HR1 : Hid ((rowOf L r).mneg = decide (((multL L r : Nat) : Int) < 0) ∧ (rowOf L r).kneg = decide (kOf L r < 0) ∧ (rowOf L r).klimbs = digs (kOf L r)) := Lib.hid ⟨rfl, rfl, rfl⟩
  generalize hmn : decide (((multL L r : Nat) : Int) < 0) = mn at *
  cases om with
  | none =>
    have HKO : Hid (kOf L r = 0) := Lib.hid (by unfold kOf; rw [snd_none HSND.out (HE6.out.nil _ 0 HMO.out), wholeZ_zero])
    obtain ⟨r0, r1, r2, r3, r4, r5, r6⟩ := hBR.seven
    have HNK : Hid (Nums (w5.alloc (.cells #[.bool mn, .slice Am nm cm, .slice Aa (cellsK L r 1).length ca, .slice Ah (cellsK L r 2).length ch, .slice As (cellsK L r 3).length cs, .bool false, .slice none 0 0] 52)) (.slice none 0 0) (digs 0)) := Lib.hid (Nums.nil _)
    obtain ⟨x0, x1, x2, x3, x4, x5, x6⟩ := HSB.out.seven
    have y0 := HSB.out.free 0
    have y1 := HSB.out.free 1
    have y2 := HSB.out.free 2
    have y3 := HSB.out.free 3
    have y4 := HSB.out.free 4
    have y5 := HSB.out.free 5
    have y6 := HSB.out.free 6
    go_wp2_with fail
    try simp only [Exit.inBlock, Exit.then]
    have hgf : (w5.alloc (.cells #[.bool mn, .slice Am nm cm, .slice Aa (cellsK L r 1).length ca, .slice Ah (cellsK L r 2).length ch, .slice As (cellsK L r 3).length cs, .bool false, .slice none 0 0] 52)).grownBy ((((((((w5.alloc (.cells #[.bool mn, .slice Am nm cm, .slice Aa (cellsK L r 1).length ca, .slice Ah (cellsK L r 2).length ch, .slice As (cellsK L r 3).length cs, .bool false, .slice none 0 0] 52)).setCell ⟨s, 0, none⟩ (.bool mn)).setCell ⟨s, 1, none⟩ (.slice Am nm cm)).setCell ⟨s, 2, none⟩ (.slice Aa (cellsK L r 1).length ca)).setCell ⟨s, 3, none⟩ (.slice Ah (cellsK L r 2).length ch)).setCell ⟨s, 4, none⟩ (.slice As (cellsK L r 3).length cs)).setCell ⟨s, 5, none⟩ (.bool false)).setCell ⟨s, 6, none⟩ (.slice none 0 0)) (some s) := gb_trans (gb_trans (gb_trans (gb_trans (gb_trans (gb_trans (gb_set _ _ _ _) (gb_set _ _ _ _)) (gb_set _ _ _ _)) (gb_set _ _ _ _)) (gb_set _ _ _ _)) (gb_set _ _ _ _)) (gb_set _ _ _ _)
    have hpl := row0_plain HSB.out
    have hsf := row0_soft HSB.out
    have hsy := StayR.row hgf hsf
    refine bodyPost_ret (v := .agg #[.bool mn, .slice Am nm cm, .slice Aa (cellsK L r 1).length ca, .slice Ah (cellsK L r 2).length ch, .slice As (cellsK L r 3).length cs, .bool false, .slice none 0 0]) (by simp [results, Tryz.results46, go_sem, *]) rfl ⟨.slice Am nm cm, .slice Aa (cellsK L r 1).length ca, .slice Ah (cellsK L r 2).length ch, .slice As (cellsK L r 3).length cs, .slice none 0 0, ?_, HN6.out.other hgf hpl, HA6.out.step hsy, HH6.out.step hsy, HS6.out.step hsy, ?_, ⟨HF3.out, HF4.out, HF5.out⟩, gb_new (gb_trans HGA.out HGR.out) hgf (by have := HSZ.out; omega)⟩
    · rw [HR1.out.1, HR1.out.2.1]
      rw [HKO.out]; rfl
    · rw [HR1.out.2.2]
      rw [HKO.out];exact HNK.out.other hgf hpl
  | some mp =>
    have hmap := (HE6.out.maps _ _ HMO.out).2
    cases hEc : E (r * 5 + 4) 0 with
    | none =>
      have HKO : Hid (kOf L r = 0) := Lib.hid (by unfold kOf; rw [snd_none HSND.out hEc, wholeZ_zero])
      obtain ⟨r0, r1, r2, r3, r4, r5, r6⟩ := hBR.seven
      have HNK : Hid (Nums (w5.alloc (.cells #[.bool mn, .slice Am nm cm, .slice Aa (cellsK L r 1).length ca, .slice Ah (cellsK L r 2).length ch, .slice As (cellsK L r 3).length cs, .bool false, .slice none 0 0] 52)) (.slice none 0 0) (digs 0)) := Lib.hid (Nums.nil _)
      obtain ⟨x0, x1, x2, x3, x4, x5, x6⟩ := HSB.out.seven
      have y0 := HSB.out.free 0
      have y1 := HSB.out.free 1
      have y2 := HSB.out.free 2
      have y3 := HSB.out.free 3
      have y4 := HSB.out.free 4
      have y5 := HSB.out.free 5
      have y6 := HSB.out.free 6
      go_wp2_with (first
        | (at_lookup; refine wpList_lookB rfl _ _ rfl 0 i0 hmap rfl rfl (.pointer none) false (by rw [hEc]; rfl) (by rw [hEc]; rfl) ?_)
        | fail)
      go_wp2_with fail
      try simp only [Exit.inBlock, Exit.then]
      have hgf : (w5.alloc (.cells #[.bool mn, .slice Am nm cm, .slice Aa (cellsK L r 1).length ca, .slice Ah (cellsK L r 2).length ch, .slice As (cellsK L r 3).length cs, .bool false, .slice none 0 0] 52)).grownBy ((((((((w5.alloc (.cells #[.bool mn, .slice Am nm cm, .slice Aa (cellsK L r 1).length ca, .slice Ah (cellsK L r 2).length ch, .slice As (cellsK L r 3).length cs, .bool false, .slice none 0 0] 52)).setCell ⟨s, 0, none⟩ (.bool mn)).setCell ⟨s, 1, none⟩ (.slice Am nm cm)).setCell ⟨s, 2, none⟩ (.slice Aa (cellsK L r 1).length ca)).setCell ⟨s, 3, none⟩ (.slice Ah (cellsK L r 2).length ch)).setCell ⟨s, 4, none⟩ (.slice As (cellsK L r 3).length cs)).setCell ⟨s, 5, none⟩ (.bool false)).setCell ⟨s, 6, none⟩ (.slice none 0 0)) (some s) := gb_trans (gb_trans (gb_trans (gb_trans (gb_trans (gb_trans (gb_set _ _ _ _) (gb_set _ _ _ _)) (gb_set _ _ _ _)) (gb_set _ _ _ _)) (gb_set _ _ _ _)) (gb_set _ _ _ _)) (gb_set _ _ _ _)
      have hpl := row0_plain HSB.out
      have hsf := row0_soft HSB.out
      have hsy := StayR.row hgf hsf
      refine bodyPost_ret (v := .agg #[.bool mn, .slice Am nm cm, .slice Aa (cellsK L r 1).length ca, .slice Ah (cellsK L r 2).length ch, .slice As (cellsK L r 3).length cs, .bool false, .slice none 0 0]) (by simp [results, Tryz.results46, go_sem, *]) rfl ⟨.slice Am nm cm, .slice Aa (cellsK L r 1).length ca, .slice Ah (cellsK L r 2).length ch, .slice As (cellsK L r 3).length cs, .slice none 0 0, ?_, HN6.out.other hgf hpl, HA6.out.step hsy, HH6.out.step hsy, HS6.out.step hsy, ?_, ⟨HF3.out, HF4.out, HF5.out⟩, gb_new (gb_trans HGA.out HGR.out) hgf (by have := HSZ.out; omega)⟩
      · rw [HR1.out.1, HR1.out.2.1]
        rw [HKO.out]; rfl
      · rw [HR1.out.2.2]
        rw [HKO.out];exact HNK.out.other hgf hpl
    | some bq =>
      obtain ⟨b, q⟩ := bq
      have hq := snd_some HSND.out hEc
      rw [hq] at hEc
      have hF : (E (r * 5 + 4) 0).map Prod.fst = some b := by rw [hEc]; rfl
      have HRAT := Lib.hid ((HE6.out.rats _ _ _ _ hEc).2)
      have HKZ : Hid (wholeZ (accQ L (r * 5 + 4) 0) (multL L r) = kOf L r) := Lib.hid rfl
      have hla := (accQ_lim HL.out (r * 5 + 4) 0).mono HKB.out
      have HLW := Lib.hid (wholeZ_lim hla HML.out)
      have HLA := Lib.hid hla
      clear hq hla
      go_wp2_with (first
        | (at_lookup; refine wpList_lookB rfl _ _ rfl 0 i0 hmap rfl rfl (.pointer (some ⟨b, 0, none⟩)) true (by rw [hEc]; rfl) (by rw [hEc]; rfl) ?_)
        | fail)
      generalize hw6 : w5.alloc (.cells #[.bool mn, .slice Am nm cm, .slice Aa (cellsK L r 1).length ca, .slice Ah (cellsK L r 2).length ch, .slice As (cellsK L r 3).length cs, .bool false, .slice none 0 0] 52) = w6 at *
      obtain ⟨tb, hrb⟩ : ∃ tb, w5.heap.size = tb := ⟨_, rfl⟩
      rw [hrb] at hBR HBR ⊢
      have HTB := Lib.hid hrb
      have hst : s < tb := by rw [← hrb]; have := (gb_trans HGR5.out (gb_refl _ _)).size; have := HG5.out.size; have := HSA.out; omega
      clear hw6 hrb
      refine (times_calls w6 b bm _ _ HRAT.out HI6.out HLA.out HML.out).mono ?_
      rintro e w7 ⟨b7, rfl, hi7, hb7, hg7⟩
      have hi7 : IntB w7 b7 (wholeZ (accQ L (r * 5 + 4) 0) (multL L r)) := hi7
      have HI7 := Lib.hid hi7
      have HG7 := Lib.hid hg7
      clear hi7 hb7 hg7 hEc hF hmap
      go_wp2_with fail
      refine (Give_calls w7 b7 0 _ HI7.out.at (Nat.le_trans HLW.out (by omega))).mono ?_
      rintro e w8 ⟨vk, rfl, hn8, hf8, hg8⟩
      rw [HKZ.out] at hn8
      rw [HKZ.out]
      obtain ⟨Ak, nk, ck, rfl⟩ := hn8.ctor
      have HG8 := Lib.hid (gb_trans HG7.out hg8)
      have HN8 := Lib.hid hn8
      have hblk := HBR.out.more HG8.out
      obtain ⟨r0, r1, r2, r3, r4, r5, r6⟩ := hblk.seven
      have z5 := hblk.free 5
      have z6 := hblk.free 6
      have hg9 : w8.grownBy ((w8.setCell ⟨tb, 5, none⟩ (.bool (decide (kOf L r < 0)))).setCell ⟨tb, 6, none⟩ (.slice Ak nk ck)) (some tb) := gb_trans (gb_set _ _ _ _) (gb_set _ _ _ _)
      have hpt : Plain w8 tb := by
        obtain ⟨T, hb⟩ := hblk
        refine plain_of_heap hb ?_
        intro u hu n
        simp only [List.mem_cons, List.not_mem_nil, or_false] at hu
        rcases hu with rfl | rfl | rfl | rfl | rfl | rfl | rfl <;> simp
      have h59 := gb_new (gb_trans HGR5.out HG8.out) hg9 (Nat.le_of_eq HTB.out)
      have HN6 := Lib.hid (HN5.out.more h59)
      have HA6 := Lib.hid (HC3''.out.more h59)
      have HH6 := Lib.hid (HC4'.out.more h59)
      have HS6 := Lib.hid (HC5.out.more h59)
      have HNK := Lib.hid (HN8.out.other hg9 hpt)
      have hstb : s ≠ tb := by omega
      have HSB := Lib.hid ((HSB.out.more HG8.out).other hg9 hstb)
      have HGR := Lib.hid (gb_trans HG5.out h59)
      clear hpt h59 hg9 hblk HKZ hf8 hn8 hg8
      obtain ⟨x0, x1, x2, x3, x4, x5, x6⟩ := HSB.out.seven
      have y0 := HSB.out.free 0
      have y1 := HSB.out.free 1
      have y2 := HSB.out.free 2
      have y3 := HSB.out.free 3
      have y4 := HSB.out.free 4
      have y5 := HSB.out.free 5
      have y6 := HSB.out.free 6
      go_wp2_with fail
      try simp only [Exit.inBlock, Exit.then]
      have hgf : ((w8.setCell ⟨tb, 5, none⟩ (.bool (decide (kOf L r < 0)))).setCell ⟨tb, 6, none⟩ (.slice Ak nk ck)).grownBy (((((((((w8.setCell ⟨tb, 5, none⟩ (.bool (decide (kOf L r < 0)))).setCell ⟨tb, 6, none⟩ (.slice Ak nk ck)).setCell ⟨s, 0, none⟩ (.bool mn)).setCell ⟨s, 1, none⟩ (.slice Am nm cm)).setCell ⟨s, 2, none⟩ (.slice Aa (cellsK L r 1).length ca)).setCell ⟨s, 3, none⟩ (.slice Ah (cellsK L r 2).length ch)).setCell ⟨s, 4, none⟩ (.slice As (cellsK L r 3).length cs)).setCell ⟨s, 5, none⟩ (.bool (decide (kOf L r < 0)))).setCell ⟨s, 6, none⟩ (.slice Ak nk ck)) (some s) := gb_trans (gb_trans (gb_trans (gb_trans (gb_trans (gb_trans (gb_set _ _ _ _) (gb_set _ _ _ _)) (gb_set _ _ _ _)) (gb_set _ _ _ _)) (gb_set _ _ _ _)) (gb_set _ _ _ _)) (gb_set _ _ _ _)
      have hpl := row0_plain HSB.out
      have hsf := row0_soft HSB.out
      have hsy := StayR.row hgf hsf
      refine bodyPost_ret (v := .agg #[.bool mn, .slice Am nm cm, .slice Aa (cellsK L r 1).length ca, .slice Ah (cellsK L r 2).length ch, .slice As (cellsK L r 3).length cs, .bool (decide (kOf L r < 0)), .slice Ak nk ck]) (by simp [results, Tryz.results46, go_sem, *]) rfl ⟨.slice Am nm cm, .slice Aa (cellsK L r 1).length ca, .slice Ah (cellsK L r 2).length ch, .slice As (cellsK L r 3).length cs, .slice Ak nk ck, ?_, HN6.out.other hgf hpl, HA6.out.step hsy, HH6.out.step hsy, HS6.out.step hsy, ?_, ⟨HF3.out, HF4.out, HF5.out⟩, gb_new (gb_trans HGA.out HGR.out) hgf (by have := HSZ.out; omega)⟩
      · rw [HR1.out.1, HR1.out.2.1]
        skip
      · rw [HR1.out.2.2]
        skip;exact HNK.out.other hgf hpl

end Go.Proofs.YtmfmfpmkgmkgiaaGreatDoor

namespace Go.Proofs.YtmfmfpmkgmkgiaaGreatDoor
open Go.RowKit Go.Maps
open Rat
def segOf (r : RowP) (k : Nat) : List CellP := if k = 0 then r.a else if k = 1 then r.h else r.s
def lensOf (l : List CellP) : List Nat := l.map fun c => c.limbs.length
def lensTo (r : RowP) : Nat → List Nat
  | 0 => [r.mlimbs.length, r.klimbs.length]
  | k + 1 => lensTo r k ++ lensOf (segOf r k)
def LenV (cs : List Value) (n : Nat) : Prop := ∃ b A c, cs = [.bool b, .slice A n c]
theorem lensOf_take {l : List CellP} {t : Nat} (h : t < l.length) : lensOf (l.take (t + 1)) = lensOf (l.take t) ++ [(l.getD t cell0).limbs.length] := by
  unfold lensOf
  rw [List.take_add_one, List.map_append, List.getD_eq_getElem?_getD, List.getElem?_eq_getElem h]; rfl
theorem lensTo_length (r : RowP) : ∀ k, k ≤ 3 → (lensTo r k).length ≤ 2 + r.a.length + r.h.length + r.s.length
  | 0, _ => by simp [lensTo]; omega
  | 1, _ => by simp [lensTo, lensOf, segOf]; omega
  | 2, _ => by simp [lensTo, lensOf, segOf]; omega
  | 3, _ => by simp [lensTo, lensOf, segOf]; omega
def LenRow (w : World) (v : Value) (ns : List Nat) : Prop :=
  ∃ A c, v = .slice A ns.length c ∧ (0 < ns.length → ∃ b, A = some ⟨b, 0, none⟩ ∧ ∀ i (hi : i < ns.length), ∃ b' A' c', w.cell? ⟨b, i * 2, none⟩ = some (.bool b') ∧ w.cell? ⟨b, i * 2 + 1, none⟩ = some (.slice A' ns[i] c'))
theorem LenRow.at {w : World} {A : Option Addr} {n c : Nat} {ns : List Nat} (h : LenRow w (.slice A n c) ns) {i : Nat} (hi : i < ns.length) : ∃ b b' A' c', A = some ⟨b, 0, none⟩ ∧ w.cell? ⟨b, i * 2, none⟩ = some (.bool b') ∧ w.cell? ⟨b, i * 2 + 1, none⟩ = some (.slice A' ns[i] c') := by
  obtain ⟨A0, c0, e, h1⟩ := h
  injection e with e1 e2 e3
  subst e1
  obtain ⟨b, rfl, h2⟩ := h1 (by omega)
  obtain ⟨b', A', c', u0, u1⟩ := h2 i hi
  exact ⟨b, b', A', c', rfl, u0, u1⟩
theorem LenRow.more {w w' : World} {v : Value} {ns : List Nat} (h : LenRow w v ns) (hg : w.grownBy w' none) : LenRow w' v ns := by
  obtain ⟨A0, c0, rfl, h1⟩ := h
  refine ⟨A0, c0, rfl, fun hp => ?_⟩
  obtain ⟨b, rfl, h2⟩ := h1 hp
  refine ⟨b, rfl, fun i hi => ?_⟩
  obtain ⟨b', A', c', u0, u1⟩ := h2 i hi
  exact ⟨b', A', c', gb_cell hg u0 (by simp), gb_cell hg u1 (by simp)⟩
theorem OwnQ.count {α : Type} {w : World} {base : Nat} {e : TypeId} {k : Nat} {v : Value} {n : Nat} {xs : List Value} {R : List Value → α → Prop} {L : List α} (h : OwnQ w base e k v n xs) (hi : RecR k R xs L) (hk : 0 < k) : n = L.length := by
  have h1 := h.1.1
  rw [hi.length] at h1
  exact (Nat.eq_of_mul_eq_mul_right hk h1).symm
theorem OwnQ.lenRow {w : World} {base : Nat} {e : TypeId} {v : Value} {n : Nat} {xs : List Value} {ns : List Nat} (h : OwnQ w base e 2 v n xs) (hi : RecR 2 LenV xs ns) (hn : n = ns.length) : LenRow w v ns := by
  obtain ⟨A, c, rfl, _, _, h3⟩ := h.recs hi hn
  refine ⟨A, c, rfl, fun hp => ?_⟩
  obtain ⟨b, rfl, h4⟩ := h3 hp
  refine ⟨b, rfl, fun i hi => ?_⟩
  obtain ⟨cs, ⟨b', A', c', rfl⟩, _, hc⟩ := h4 i hi
  exact ⟨b', A', c', hc 0 (by omega), hc 1 (by omega)⟩

set_option maxRecDepth 100000 in
set_option maxHeartbeats 40000000 in
theorem numbers_calls (w : World) (r : RowP) (mn kn : Bool) (Am Aa Ah As Ak : Option Addr) (cm ca ch cs ck : Nat) (ha : CellRow w (.slice Aa r.a.length ca) r.a) (hh : CellRow w (.slice Ah r.h.length ch) r.h) (hs : CellRow w (.slice As r.s.length cs) r.s)
    (l1 : r.a.length ≤ 1000000) (l2 : r.h.length ≤ 1000000) (l3 : r.s.length ≤ 1000000) :
    Calls Tryz.prog 47 #[.agg #[.bool mn, .slice Am r.mlimbs.length cm, .slice Aa r.a.length ca, .slice Ah r.h.length ch, .slice As r.s.length cs, .bool kn, .slice Ak r.klimbs.length ck]] w fun e w' => ∃ v, e = .returned v ∧ LenRow w' v (lensTo r 3) ∧ w.grownBy w' none := by
  have gw := gb_alloc w (.cells #[.bool mn, .slice Am r.mlimbs.length cm, .slice Aa r.a.length ca, .slice Ah r.h.length ch, .slice As r.s.length cs, .bool kn, .slice Ak r.klimbs.length ck] 52) none
  have hB := Blk.new w #[.bool mn, .slice Am r.mlimbs.length cm, .slice Aa r.a.length ca, .slice Ah r.h.length ch, .slice As r.s.length cs, .bool kn, .slice Ak r.klimbs.length ck] 52
  have hseg : ∀ k, k < 3 → ∃ A c, CellRow w (.slice A (segOf r k).length c) (segOf r k) ∧ (segOf r k).length ≤ 1000000 ∧ ∀ W, (Instr.index 184 (.agg #[.slice Aa r.a.length ca, .slice Ah r.h.length ch, .slice As r.s.length cs]) (.int .i64 (k : Int))).run Tryz.prog W = .ok (.slice A (segOf r k).length c) W := by
    intro k hk
    rcases (show k = 0 ∨ k = 1 ∨ k = 2 by omega) with rfl | rfl | rfl
    · exact ⟨Aa, ca, ha, l1, fun _ => by kernel_rfl⟩
    · exact ⟨Ah, ch, hh, l2, fun _ => by kernel_rfl⟩
    · exact ⟨As, cs, hs, l3, fun _ => by kernel_rfl⟩
  have HSEG := Lib.hid hseg
  obtain ⟨x0, x1, x2, x3, x4, x5, x6⟩ := hB.seven
  have HB := Lib.hid hB
  have HGW := Lib.hid gw
  have HLT : Hid (∀ k, k ≤ 3 → (lensTo r k).length ≤ 3000002) := Lib.hid fun k hk => by have := lensTo_length r k hk; omega
  have HL0 : Hid (lensTo r 0 = [r.mlimbs.length, r.klimbs.length]) := Lib.hid rfl
  clear ha hh hs hseg gw hB
  go_enter Tryz.func47, Tryz.ntmps47
  go_wp2_with fail
  have hsa : (w.alloc (.cells #[.bool mn, .slice Am r.mlimbs.length cm, .slice Aa r.a.length ca, .slice Ah r.h.length ch, .slice As r.s.length cs, .bool kn, .slice Ak r.klimbs.length ck] 52)).heap.size = w.heap.size + 1 := by simp
  have HSA := Lib.hid hsa
  clear hsa
  generalize w.alloc (.cells #[.bool mn, .slice Am r.mlimbs.length cm, .slice Aa r.a.length ca, .slice Ah r.h.length ch, .slice As r.s.length cs, .bool kn, .slice Ak r.klimbs.length ck] 52) = wa at *
  generalize hsz : w.heap.size = s at *
  have HSZ := Lib.hid hsz
  clear hsz
  have gb := gb_alloc wa (.cells #[.bool mn, .slice Am r.mlimbs.length cm, .bool kn, .slice Ak r.klimbs.length ck] 49) none
  have ho0 : OwnQ (wa.alloc (.cells #[.bool mn, .slice Am r.mlimbs.length cm, .bool kn, .slice Ak r.klimbs.length ck] 49)) (s + 1) 49 2 (.slice (some ⟨s + 1, 0, none⟩) 2 2) 2 [.bool mn, .slice Am r.mlimbs.length cm, .bool kn, .slice Ak r.klimbs.length ck] := by
    have h1 := World.ownsRow_lit (e := 49) (size := 2) (base := s + 1) wa #[.bool mn, .slice Am r.mlimbs.length cm, .bool kn, .slice Ak r.klimbs.length ck] 2 (Nat.le_of_eq HSA.out.symm) (by decide) rfl
    rw [HSA.out] at h1
    refine ⟨h1, fun g hg => ?_⟩
    obtain rfl : s + 1 = g := by simpa [Value.ownBlock] using hg
    refine plain_of_heap (heap_new _ HSA.out.symm) ?_
    intro u hu n
    simp only [List.mem_cons, List.not_mem_nil, or_false] at hu
    rcases hu with rfl | rfl | rfl | rfl <;> simp
  have HO0 := Lib.hid ho0
  have HGB := Lib.hid gb
  clear ho0 gb
  go_loopw [3, 20] (fun bv iv wr => ∃ k : Nat, k ≤ 3 ∧ iv = .int .i64 k ∧ wa.grownBy wr none ∧ Hid (∃ (cnt : Nat) (xs : List Value), OwnQ wr (s + 1) 49 2 bv cnt xs ∧ RecR 2 LenV xs (lensTo r k))) (fun _ iv _ => (3 - intOf iv).toNat)
  case atStart =>
    refine ⟨0, by omega, rfl, HGB.out, Lib.hid ⟨2, _, HO0.out, ?_⟩⟩
    rw [HL0.out]
    exact ⟨[.bool mn, .slice Am r.mlimbs.length cm], _, rfl, rfl, ⟨_, _, _, rfl⟩, [.bool kn, .slice Ak r.klimbs.length ck], [], rfl, rfl, ⟨_, _, _, rfl⟩, rfl⟩
  case round =>
    obtain ⟨k, hk, rfl, hg, hown⟩ := hrel
    by_cases hlt : k < 3
    · obtain ⟨A, c, hrow, hl, hix⟩ := HSEG.out k hlt
      have hlk := HLT.out (k + 1) (by omega)
      have HLK : Hid (lensTo r (k + 1) = lensTo r k ++ lensOf (segOf r k)) := Lib.hid rfl
      rw [HLK.out, List.length_append] at hlk
      have hlo : (lensOf (segOf r k)).length = (segOf r k).length := by simp [lensOf]
      rw [hlo] at hlk
      generalize segOf r k = seg at *
      have HROW := Lib.hid (hrow.more HGW.out)
      have HG := Lib.hid hg
      have HK3 := Lib.hid hlt
      have HLKK := Lib.hid hlk
      clear hrow hlo hlk hg
      go_wp2_with fail
      obtain ⟨w5, rfl⟩ : ∃ w5 : World, w5 = wr := ⟨_, rfl⟩
      go_loopw [3, 25] (fun bv iv wr => ∃ t : Nat, t ≤ seg.length ∧ iv = .int .i64 t ∧ wa.grownBy wr none ∧ Hid (∃ (cnt : Nat) (xs : List Value), OwnQ wr (s + 1) 49 2 bv cnt xs ∧ RecR 2 LenV xs (lensTo r k ++ lensOf (seg.take t)))) (fun _ iv _ => (seg.length - intOf iv).toNat)
      case atStart =>
        obtain ⟨cnt, xs, h1, h2⟩ := hown.out
        exact ⟨0, by omega, rfl, HG.out, Lib.hid ⟨cnt, xs, h1, by simpa [lensOf] using h2⟩⟩
      case round =>
        clear hown
        obtain ⟨t, ht, rfl, hg, hown⟩ := hrel
        by_cases htl : t < seg.length
        · obtain ⟨b, o, A', n', c', rfl, hI, u0, u1, u2, hn⟩ := (HROW.out.more hg).at htl
          have hnn : n' = (seg.getD t cell0).limbs.length := by obtain ⟨_, _, e, _⟩ := hn.form; injection e
          have htake := lensOf_take htl
          rw [← hnn] at htake
          generalize (seg.getD t cell0).col = col at *
          generalize (seg.getD t cell0).neg = neg at *
          have gc := gb_alloc wr (.cells #[.int .i64 col, .bool neg, .slice A' n' c'] 55) none
          obtain ⟨m0, m1, m2⟩ := (Blk.new wr #[.int .i64 col, .bool neg, .slice A' n' c'] 55).three
          obtain ⟨cnt, xs, ho1, ho2⟩ := hown.out
          have ho3 := ho1.count ho2 (by omega)
          have HO1 := Lib.hid (ho1.more gc)
          have HO2 := Lib.hid ho2
          have HTK := Lib.hid htake
          have HTL := Lib.hid htl
          have HGC := Lib.hid (gb_trans hg gc)
          have hcl : cnt ≤ 3000002 := by
            rw [ho3, List.length_append]
            have h5 : (lensOf (seg.take t)).length ≤ seg.length := by simp [lensOf]; omega
            have := HLKK.out
            omega
          have hsw : s + 1 ≤ (wr.alloc (.cells #[.int .i64 col, .bool neg, .slice A' n' c'] 55)).heap.size := by
            have h1 := HGC.out.size
            rw [HSA.out] at h1; exact h1
          clear hown ho1 ho2 ho3 hnn hn htake gc hg hI
          go_upto_region 8 with (fail)
          have hzs : wr.heap.size < (wr.alloc (.cells #[.int .i64 col, .bool neg, .slice A' n' c'] 55)).heap.size := by simp
          generalize wr.alloc (.cells #[.int .i64 col, .bool neg, .slice A' n' c'] 55) = wc at *
          generalize wr.heap.size = sq at *
          go_wp2_with (first
            | (at_builtin; refine app_one_q (s + 1) rfl (.tmp 29) (.tmp 32) 61 49 (.agg #[.bool false, .slice none 0 0]) 2 32 rfl Tryz.underlying61 zintinfo rfl (by omega) (by omega) u3 cnt xs #[.bool neg, .slice A' n' c'] (by rfl) HO1.out (by rfl) (by rfl) (by simp [Value.oneCell']) (by omega) hsw (intcells_noD _ _ _ _) intzero_noD ?_; intro g cap w7 hown7 hg7; have H7 := Lib.hid (And.intro hown7 hg7); clear hown7 hg7)
            | fail)
          have htl := HTL.out
          have hgb : wa.grownBy w7 none := gb_own (gb_trans HGC.out (gb_alloc wc (.cells #[.bool neg, .slice A' n' c'] 49) none)) (by rw [HSA.out]; exact HO1.out.more (gb_alloc _ _ _)) H7.out.2
          exact ⟨⟨.slice (some ⟨g, 0, none⟩) (cnt + 1) cap, _, _, ⟨t + 1, by omega, rfl, hgb, Lib.hid ⟨cnt + 1, _, H7.out.1, by rw [HTK.out, ← List.append_assoc]; exact RecR.snoc (k := 2) (ys := [.bool neg, .slice A' n' c']) rfl ⟨_, _, _, rfl⟩ HO2.out⟩⟩, rfl, rfl, by go_num⟩, by simp [intOf]; omega⟩
        · obtain rfl : t = seg.length := by omega
          obtain ⟨cnt, xs, h1, h2⟩ := hown.out
          rw [List.take_of_length_le (Nat.le_refl _)] at h2
          have HH := Lib.hid (And.intro h1 h2)
          clear hown h1 h2
          go_wp2_with fail
          have hk3 := HK3.out
          exact ⟨⟨k + 1, by omega, by go_num, hg, Lib.hid ⟨cnt, xs, HH.out.1, by rw [HLK.out]; exact HH.out.2⟩⟩, by simp [intOf]; omega⟩
    · obtain rfl : k = 3 := by omega
      obtain ⟨cnt, xs, h1, h2⟩ := hown.out
      have HH := Lib.hid (OwnQ.lenRow h1 h2 (h1.count h2 (by omega)))
      clear hown h1 h2
      go_wp2_with fail
      go_ret
      exact ⟨_, rfl, HH.out, gb_trans HGW.out hg⟩

end Go.Proofs.YtmfmfpmkgmkgiaaGreatDoor

namespace Go.Proofs.YtmfmfpmkgmkgiaaGreatDoor
open Go.RowKit Go.Maps
open Rat
def allSt (St : Nat → List StampP) : Nat → List StampP
  | 0 => []
  | k + 1 => allSt St k ++ St k
def rowsOf (L : List StampP) (n : Nat) : List RowP := (List.range n).map (rowOf L)
def wideB (L : List StampP) (r : Nat) : Bool := (lensTo (rowOf L r) 3).all fun x => decide (x ≤ 72)
def buildE (L : List StampP) (n : Nat) : Int := if ∀ r, r < n → wideB L r = true then 0 else 13
def buildV (L : List StampP) (n : Nat) : List RowP := if buildE L n = 0 then rowsOf L n else []
theorem build_no {L : List StampP} {n k : Nat} (hk : k < n) (h : wideB L k = false) : buildE L n = 13 ∧ buildV L n = [] := by
  have h1 : buildE L n = 13 := by unfold buildE; rw [if_neg]; intro hh; rw [hh k hk] at h; cases h
  exact ⟨h1, by unfold buildV; rw [h1]; rfl⟩
theorem build_ok {L : List StampP} {n : Nat} (h : ∀ r, r < n → wideB L r = true) : buildE L n = 0 ∧ buildV L n = rowsOf L n := by
  have h1 : buildE L n = 0 := by unfold buildE; rw [if_pos h]
  exact ⟨h1, by unfold buildV; rw [if_pos h1]⟩
theorem SysRow.nil (w : World) : SysRow w (.slice none 0 0) [] := ⟨none, 0, rfl, by simp, by omega, fun h => by simp at h⟩
theorem rowsOf_length (L : List StampP) (n : Nat) : (rowsOf L n).length = n := by simp [rowsOf]
theorem rowsOf_succ (L : List StampP) (n : Nat) : rowsOf L (n + 1) = rowsOf L n ++ [rowOf L n] := by simp [rowsOf, List.range_succ]

theorem allSt_mono (St : Nat → List StampP) (k : Nat) : ∀ d, (allSt St k).length ≤ (allSt St (k + d)).length
  | 0 => Nat.le_refl _
  | d + 1 => by have := allSt_mono St k d; rw [← Nat.add_assoc, allSt, List.length_append]; omega
theorem mem_allSt {St : Nat → List StampP} {x : StampP} : ∀ {k : Nat}, x ∈ allSt St k → ∃ j, j < k ∧ x ∈ St j
  | 0, h => by simp [allSt] at h
  | k + 1, h => by
    rcases List.mem_append.1 h with h | h
    · obtain ⟨j, hj, hx⟩ := mem_allSt h; exact ⟨j, by omega, hx⟩
    · exact ⟨k, by omega, h⟩
theorem take_len {St : Nat → List StampP} {D M k t : Nat} (hM : (allSt St D).length ≤ M) (hk : k < D) (ht : t ≤ (St k).length) : (allSt St k ++ (St k).take t).length ≤ M := by
  have h1 := allSt_mono St (k + 1) (D - (k + 1))
  rw [show k + 1 + (D - (k + 1)) = D by omega, allSt, List.length_append] at h1
  rw [List.length_append, List.length_take]
  omega
def RowW (w : World) (cs : List Value) (r : RowP) : Prop :=
  ∃ vm va vh vs vk, cs = [.bool r.mneg, vm, va, vh, vs, .bool r.kneg, vk] ∧ Nums w vm r.mlimbs ∧ Stab (fun w' => CellRow w' va r.a) w ∧ Stab (fun w' => CellRow w' vh r.h) w ∧ Stab (fun w' => CellRow w' vs r.s) w ∧ Nums w vk r.klimbs
theorem RowW.step {w w' : World} {cs : List Value} {r : RowP} (h : RowW w cs r) (hs : StayR w w') : RowW w' cs r := by
  obtain ⟨vm, va, vh, vs, vk, e, h1, h2, h3, h4, h5⟩ := h
  exact ⟨vm, va, vh, vs, vk, e, hs.nums _ _ h1, h2.step hs, h3.step hs, h4.step hs, hs.nums _ _ h5⟩
theorem RowW.v {w : World} {cs : List Value} {r : RowP} (h : RowW w cs r) : RowV w cs r := by
  obtain ⟨vm, va, vh, vs, vk, e, h1, h2, h3, h4, h5⟩ := h
  exact ⟨vm, va, vh, vs, vk, e, h1, h2.here, h3.here, h4.here, h5⟩
theorem OwnQ.sysRow {w : World} {base : Nat} {e : TypeId} {v : Value} {n : Nat} {xs : List Value} {L : List RowP} (h : OwnQ w base e 7 v n xs) (hi : RecR 7 (RowW w) xs L) : SysRow w v L := by
  obtain ⟨A, c, rfl, h1, h2, h3⟩ := h.recs hi (h.count hi (by omega))
  refine ⟨A, c, rfl, h1, h2, fun hp => ?_⟩
  obtain ⟨b, rfl, h4⟩ := h3 hp
  refine ⟨b, 0, rfl, fun i hi => ?_⟩
  obtain ⟨cs, hr, _, hc⟩ := h4 i hi
  refine ⟨cs, by rw [List.getD_eq_getElem?_getD, List.getElem?_eq_getElem hi]; exact hr.v, fun j hj => ?_⟩
  rw [Nat.zero_add]; exact hc j hj
theorem OwnQ.softRow {w : World} {base : Nat} {e : TypeId} {v : Value} {n : Nat} {xs : List Value} {L : List RowP} {R : List Value → RowP → Prop} (h : OwnQ w base e 7 v n xs) (hi : RecR 7 R xs L) (hR : ∀ cs r, R cs r → ∃ b, cs[0]? = some (.bool b)) : ∀ g, v.ownBlock = some g → 0 < n → Soft w g := by
  intro g hg hn
  refine ⟨h.2 g hg, fun m => ?_⟩
  have hcnt := h.count hi (by omega)
  obtain ⟨cs, hr, hl, hc⟩ := hi.at 0 (by omega)
  obtain ⟨b, hb⟩ := hR cs _ hr
  have h0 := hc 0 (by omega)
  rw [Nat.zero_mul, hb] at h0
  have := h.1.cells (g := g) hg 0 _ h0
  have e : (⟨g, 0, none⟩ : Addr).add 0 = ⟨g, 0, none⟩ := addr0 g 0
  rw [e] at this
  rw [this]; simp

theorem StampRow.stay {w w' : World} {v : Value} {L : List StampP} (h : StampRow w v L) (hs : StayR w w') : StampRow w' v L := by
  obtain ⟨A, c, rfl, h1⟩ := h
  refine ⟨A, c, rfl, fun hp => ?_⟩
  obtain ⟨b, rfl, h2⟩ := h1 hp
  obtain ⟨cs0, ⟨_, _, _, _, _, _, _, _, _, rfl, _⟩, hc0⟩ := h2 0 hp
  have hz : w.cell? ⟨b, 0, none⟩ = some (.int .i64 L[0].kind) := by have := hc0 0 (by omega); rw [Nat.zero_mul] at this; exact this
  refine ⟨b, rfl, fun i hi => ?_⟩
  obtain ⟨cs, ⟨a1, a2, a3, A1, n1, c1, A2, n2, c2, rfl, hn1, hn2⟩, hc⟩ := h2 i hi
  refine ⟨_, ⟨a1, a2, a3, A1, n1, c1, A2, n2, c2, rfl, hs.nums _ _ hn1, hs.nums _ _ hn2⟩, fun j hj => ?_⟩
  have h3 := hc j hj
  have hl : j < [Value.int .i64 L[i].kind, .int .i64 L[i].row, .int .i64 L[i].col, .bool (decide (L[i].val.num < 0)), .slice A1 n1 c1, .bool false, .slice A2 n2 c2].length := hj
  rw [List.getElem?_eq_getElem hl] at h3 ⊢
  exact hs.ints b _ _ _ hz h3
theorem StampRow.at {w : World} {A : Option Addr} {n c : Nat} {L : List StampP} (h : StampRow w (.slice A n c) L) {i : Nat} (hi : i < L.length) : ∃ b A1 n1 c1 A2 n2 c2, A = some ⟨b, 0, none⟩ ∧ I64 L[i].col ∧
    w.cell? ⟨b, i * 7, none⟩ = some (.int .i64 L[i].kind) ∧ w.cell? ⟨b, i * 7 + 1, none⟩ = some (.int .i64 L[i].row) ∧ w.cell? ⟨b, i * 7 + 2, none⟩ = some (.int .i64 L[i].col) ∧ w.cell? ⟨b, i * 7 + 3, none⟩ = some (.bool (decide (L[i].val.num < 0))) ∧
    w.cell? ⟨b, i * 7 + 4, none⟩ = some (.slice A1 n1 c1) ∧ w.cell? ⟨b, i * 7 + 5, none⟩ = some (.bool false) ∧ w.cell? ⟨b, i * 7 + 6, none⟩ = some (.slice A2 n2 c2) ∧ Nums w (.slice A1 n1 c1) (digs L[i].val.num) ∧ Nums w (.slice A2 n2 c2) (digs (L[i].val.den : Int)) := by
  obtain ⟨A', c', e, h1⟩ := h
  injection e with e1 e2 e3
  subst e1
  obtain ⟨b, rfl, h2⟩ := h1 (by omega)
  obtain ⟨cs, ⟨a1, a2, a3, A1, n1, c1, A2, n2, c2, rfl, hn1, hn2⟩, hc⟩ := h2 i hi
  exact ⟨b, A1, n1, c1, A2, n2, c2, rfl, a3, hc 0 (by omega), hc 1 (by omega), hc 2 (by omega), hc 3 (by omega), hc 4 (by omega), hc 5 (by omega), hc 6 (by omega), hn1, hn2⟩

theorem rowinfo : (Tryz.prog.info? 52).map (fun i => (i.zero, i.size, i.bytes)) = some (some (.agg #[.bool false, .slice none 0 0, .slice none 0 0, .slice none 0 0, .slice none 0 0, .bool false, .slice none 0 0]), 7, 136) := by kernel_rfl
theorem rowzero_noD : NoD (Value.agg #[.bool false, .slice none 0 0, .slice none 0 0, .slice none 0 0, .slice none 0 0, .bool false, .slice none 0 0]).cells.toList := by
  intro u hu n
  simp [Value.cells] at hu
  rcases hu with rfl | rfl | rfl | rfl <;> simp
theorem rowcells_noD (b1 b2 : Bool) (A1 A2 A3 A4 A5 : Option Addr) (n1 n2 n3 n4 n5 k1 k2 k3 k4 k5 : Nat) : NoD (#[Value.bool b1, .slice A1 n1 k1, .slice A2 n2 k2, .slice A3 n3 k3, .slice A4 n4 k4, .bool b2, .slice A5 n5 k5]).toList := by
  intro u hu n
  simp only [List.mem_cons, List.not_mem_nil, or_false] at hu
  rcases hu with rfl | rfl | rfl | rfl | rfl | rfl | rfl <;> simp
theorem buildRow (b1 b2 : Bool) (A1 A2 A3 A4 A5 : Option Addr) (n1 n2 n3 n4 n5 k1 k2 k3 k4 k5 : Nat) (W : World) : (Instr.buildSlice 36 1 #[(0, Value.agg #[Value.bool b1, .slice A1 n1 k1, .slice A2 n2 k2, .slice A3 n3 k3, .slice A4 n4 k4, .bool b2, .slice A5 n5 k5])]).run Tryz.prog W = .ok (.slice (some ⟨W.heap.size, 0, none⟩) 1 1) (W.alloc (.cells #[Value.bool b1, .slice A1 n1 k1, .slice A2 n2 k2, .slice A3 n3 k3, .slice A4 n4 k4, .bool b2, .slice A5 n5 k5] 52)) := by kernel_rfl
theorem sys_soft {w : World} {b : Nat} {A : Option Addr} {n c : Nat} (h : Blk w b #[.slice A n c]) : Soft w b := by
  refine ⟨?_, fun n => by rw [h.cell 0]; simp⟩
  obtain ⟨T, hb⟩ := h
  refine plain_of_heap hb ?_
  intro u hu n
  simp at hu
  subst hu; simp
theorem wpList_build1 {P : Program} {w : World} {ops : Array Oper} {rest : List Oper} {o : Oper} {a : Act} {Q : Exit → Act → World → Prop} (hg : o.guard = none) (t e : TypeId) (x : Operand) (hop : o.op = Op.buildSlice t 1 #[(0, x)])
    (cs : Array Value) (hx : a.eval x = .agg cs) (hrun : ∀ W : World, (Instr.buildSlice t 1 #[(0, Value.agg cs)]).run P W = .ok (.slice (some ⟨W.heap.size, 0, none⟩) 1 1) (W.alloc (.cells cs e)))
    (hK : wpList P ops Q rest (a.put o.dst (.slice (some ⟨w.heap.size, 0, none⟩) 1 1)) (w.alloc (.cells cs e))) : wpList P ops Q (o :: rest) a w := by
  refine wpList_plain hg fun K' hK' => ?_
  unfold Oper.wp
  simp [execOp, hop, hx, hrun, Result.andThen]
  exact hK' _ _ hK
theorem make_sums (W : World) (n : Nat) (hn : n ≤ 48) :
    (Instr.makeSlice 106 (.int .i64 (n : Int)) (.int .i64 (n : Int))).run Tryz.prog W = .ok (.slice (some ⟨W.heap.size, 0, none⟩) n n) (W.alloc (.cells (Array.replicate (n * 5) (Value.map none)) 115)) := by
  have hz : (Tryz.prog.info? 115).map (fun i => (i.zero, i.size, i.bytes)) = some (some (.agg #[.map none, .map none, .map none, .map none, .map none]), 5, 40) := by kernel_rfl
  obtain ⟨i0, hi, hzz⟩ := Option.map_eq_some_iff.1 hz
  simp only [Prod.mk.injEq] at hzz
  obtain ⟨hz0, hz1, hz2⟩ := hzz
  have h := run_make (P := Tryz.prog) (w := W) 106 115 i0 _ Tryz.underlying106 hi hz0 .i64 .i64 (n : Int) (n : Int) (by omega) (Int.le_refl _) (by rw [hz2]; omega) (by omega)
  rw [show ((n : Int)).toNat = n by omega, hz1] at h
  have e : madeCells (Value.agg #[.map none, .map none, .map none, .map none, .map none]).cells (n * 5) = Array.replicate (n * 5) (Value.map none) := by
    apply Array.ext
    · simp [madeCells]
    · intro i h1 h2
      have h3 : i % 5 < 5 := Nat.mod_lt _ (by omega)
      rcases (show i % 5 = 0 ∨ i % 5 = 1 ∨ i % 5 = 2 ∨ i % 5 = 3 ∨ i % 5 = 4 by omega) with h | h | h | h | h <;> simp [madeCells, Value.cells, h]
  rw [e] at h
  exact h
theorem sums_made (W : World) (n : Nat) (T : TypeId) : SumsS (W.alloc (.cells (Array.replicate (n * 5) (Value.map none)) T)) W.heap.size W.heap.size n [] := by
  have he : (Array.replicate (n * 5) (Value.map none)) = ((List.replicate (n * 5) (none : Option Nat)).map Value.map).toArray := by apply Array.ext' ; simp
  rw [he]
  refine ⟨List.replicate (n * 5) none, fun _ _ => none, by simp, ⟨Nat.le_refl _, ⟨T, heap_alloc_new _ _⟩, fun i mb h => ?_, fun _ _ _ => rfl, fun _ _ _ => rfl, fun _ _ _ _ h => (by cases h), fun i j mb h => ?_, fun _ _ _ _ _ _ _ h => (by cases h)⟩, fun i c => by simp [hasQ]⟩
  · rw [List.getElem?_replicate] at h; split at h <;> simp at h
  · rw [List.getElem?_replicate] at h; split at h <;> simp at h

set_option maxHeartbeats 40000000 in
theorem segsRight0_calls (w : World) (f : FlatP) (A1 : Option Addr) (c1 : Nat) (A2 : Option Addr) (c2 : Nat) (A : Option Addr) (c : Nat) :
    Calls Tryz.prog 42 #[.agg #[.slice A1 f.nodes.length c1, .slice A2 f.devs.length c2, .int .i64 f.step.1, .int .i64 f.step.2, .int .i64 f.method], .slice A 0 c, .slice none 0 0] w fun e w' => e = .returned (.bool true) ∧ w.grownBy w' none := by
  go_enter Tryz.func42, Tryz.ntmps42
  go_wp2_with fail
  refine wp_loop_rounds 1 ?_
  rw [rounds_succ]
  go_wp2_with fail
  go_ret
  exact ⟨rfl, gb_alloc _ _ _⟩

end Go.Proofs.YtmfmfpmkgmkgiaaGreatDoor
