/- Contracts of the program's functions, and what they rest on: SumL LawD. -/
import Derived.Test.YtmfmfpmkgmkgiaaGreatDoorMba
import Derived.Test.YtmfmfpmkgmkgiaaGreatDoorMbd
import Derived.Test.YtmfmfpmkgmkgiaaGreatDoorMax
import Derived.Test.YtmfmfpmkgmkgiaaGreatDoorMal
set_option linter.unusedVariables false
set_option linter.unusedSimpArgs false
namespace Go.Proofs.YtmfmfpmkgmkgiaaGreatDoor
open Go.RowKit Go.Maps
open Rat
def sysStamps (f : FlatP) (mode method : Int) (step : Int × Int) (segs : List Int) : List StampP := allSt (stampsF f mode method step segs) f.devs.length
def faultE (f : FlatP) (mode method : Int) (step : Int × Int) (segs : List Int) : Int := if flatE f ≠ 0 then flatE f else if setB mode method step = false then 110 else if segsB f segs = false then 111 else 0
def bldE (f : FlatP) (mode method : Int) (step : Int × Int) (segs : List Int) : Int := if faultE f mode method step segs ≠ 0 then faultE f mode method step segs else buildE (sysStamps f mode method step segs) (unk f).toNat
def bldV (f : FlatP) (mode method : Int) (step : Int × Int) (segs : List Int) : List RowP := if faultE f mode method step segs ≠ 0 then [] else buildV (sysStamps f mode method step segs) (unk f).toNat
theorem fault_0 {f : FlatP} {mode method : Int} {step : Int × Int} {segs : List Int} (h : faultE f mode method step segs = 0) : flatE f = 0 ∧ setB mode method step = true ∧ segsB f segs = true := by
  unfold faultE at h
  split at h
  · omega
  · split at h
    · omega
    · split at h
      · omega
      · rename_i h1 h2 h3
        exact ⟨by omega, by simpa using h2, by simpa using h3⟩
theorem unk_nat {f : FlatP} (h : flatE f = 0) : unk f = ((unk f).toNat : Int) ∧ (unk f).toNat ≤ 48 := by
  obtain ⟨_, _, h3, h4, _⟩ := flat_ok h
  have : 0 ≤ unk f := by unfold unk; omega
  omega
theorem sysStamps_ok {f : FlatP} {mode method : Int} {step : Int × Int} {segs : List Int} (h : faultE f mode method step segs = 0) : StG (unk f) 128 (sysStamps f mode method step segs) ∧ (sysStamps f mode method step segs).length ≤ 1024 := by
  obtain ⟨h1, h2, h3⟩ := fault_0 h
  have hd := (flat_ok h1).2.1
  constructor
  · intro x hx
    obtain ⟨j, hj, hx⟩ := mem_allSt hx
    exact stampsF_ok h1 hj h2 h3 x hx
  · have : ∀ k, (allSt (stampsF f mode method step segs) k).length ≤ k * 16 := by
      intro k
      induction k with
      | zero => simp [allSt]
      | succ k ih => rw [allSt, List.length_append]; have := stampsD_len (f.devs.getD k dev0) (brs f.devs ((f.nodes.length : Int) - 1) f.devs.length) k mode method step (segI f segs k).toNat; unfold stampsF at ih ⊢; omega
    have := this f.devs.length
    unfold sysStamps
    omega


set_option maxRecDepth 100000 in
set_option maxHeartbeats 40000000 in
theorem Build_calls (w : World) (f : FlatP) (A1 : Option Addr) (c1 : Nat) (A2 : Option Addr) (c2 : Nat) (hf : FlatAt w f A1 c1 A2 c2) (hG : GlobOK w)
    (mode method : Int) (step : Int × Int) (i1 : I64 step.1) (i2 : I64 step.2) (Aq : Option Addr) (cq : Nat) (segs : List Int) (hsr : IntRow w (.slice Aq segs.length cq) segs) :
    Calls Tryz.prog 13 #[.agg #[.slice A1 f.nodes.length c1, .slice A2 f.devs.length c2, .int .i64 f.step.1, .int .i64 f.step.2, .int .i64 f.method], .agg #[.int .i64 mode, .int .i64 method, .int .i64 step.1, .int .i64 step.2], .slice Aq segs.length cq] w fun e w' => ∃ A c, e = .returned (.tuple #[.agg #[.slice A (bldV f mode method step segs).length c], .int .i64 (bldE f mode method step segs)]) ∧ SysRow w' (.slice A (bldV f mode method step segs).length c) (bldV f mode method step segs) ∧ w.grownBy w' none := by
  by_cases hft : faultE f mode method step segs = 0
  · obtain ⟨h0, hs, hsb⟩ := fault_0 hft
    obtain ⟨u1, u2⟩ := unk_nat h0
    obtain ⟨k1, k2⟩ := sysStamps_ok hft
    have hE : bldE f mode method step segs = buildE (sysStamps f mode method step segs) (unk f).toNat := by unfold bldE; rw [if_neg (by omega)]
    have hV : bldV f mode method step segs = buildV (sysStamps f mode method step segs) (unk f).toNat := by unfold bldV; rw [if_neg (by omega)]
    rw [hE, hV]
    refine Build1_calls w f A1 c1 A2 c2 hf hG h0 mode method step i1 i2 hs Aq cq segs hsr hsb (unk f).toNat u1 (stampsF f mode method step segs) 128 1024 (fun k hk W hW => SOf1_calls W f A1 c1 A2 c2 (hf.more hW) (hG.more hW) h0 mode method step i1 i2 hs k hk (segI f segs k) (fun hb => (segs_at hsb hk hb).2) _ rfl) (fun k x hk hx => ?_) k2 (by omega) (by omega)
    obtain ⟨⟨a1, a2, a3, a4⟩, a5⟩ := stampsF_ok h0 hk hs hsb x hx
    exact ⟨⟨x.row.toNat, by omega, by omega⟩, ⟨x.kind.toNat, by omega, by omega⟩, a4⟩
  · have hE : bldE f mode method step segs = faultE f mode method step segs := by unfold bldE; rw [if_pos hft]
    have hV : bldV f mode method step segs = [] := by unfold bldV; rw [if_pos hft]
    rw [hE, hV]
    by_cases h0 : flatE f = 0
    · by_cases hs : setB mode method step = true
      · have hsb : segsB f segs = false := by
          cases h : segsB f segs with
          | false => rfl
          | true => exact absurd (by unfold faultE; rw [if_neg (by omega), if_neg (by rw [hs]; simp), if_neg (by rw [h]; simp)]) hft
        have hF : faultE f mode method step segs = 111 := by unfold faultE; rw [if_neg (by omega), if_neg (by rw [hs]; simp), if_pos hsb]
        rw [hF]
        have g1 := gb_alloc w (.cells #[.slice A1 f.nodes.length c1, .slice A2 f.devs.length c2, .int .i64 f.step.1, .int .i64 f.step.2, .int .i64 f.method] 27) none
        have g2 := gb_alloc (w.alloc (.cells #[.slice A1 f.nodes.length c1, .slice A2 f.devs.length c2, .int .i64 f.step.1, .int .i64 f.step.2, .int .i64 f.method] 27)) (.cells #[.int .i64 mode, .int .i64 method, .int .i64 step.1, .int .i64 step.2] 29) none
        have g3 := gb_alloc ((w.alloc (.cells #[.slice A1 f.nodes.length c1, .slice A2 f.devs.length c2, .int .i64 f.step.1, .int .i64 f.step.2, .int .i64 f.method] 27)).alloc (.cells #[.int .i64 mode, .int .i64 method, .int .i64 step.1, .int .i64 step.2] 29)) (.cells #[.slice none 0 0] 38) none
        have gw := gb_trans g1 (gb_trans g2 g3)
        have hFB := (FlatBox.of (Blk.new w #[.slice A1 f.nodes.length c1, .slice A2 f.devs.length c2, .int .i64 f.step.1, .int .i64 f.step.2, .int .i64 f.method] 27)).more (gb_trans g2 g3)
        have hSB := (Blk.new (w.alloc (.cells #[.slice A1 f.nodes.length c1, .slice A2 f.devs.length c2, .int .i64 f.step.1, .int .i64 f.step.2, .int .i64 f.method] 27)) #[.int .i64 mode, .int .i64 method, .int .i64 step.1, .int .i64 step.2] 29).more g3
        have hZB := Blk.new ((w.alloc (.cells #[.slice A1 f.nodes.length c1, .slice A2 f.devs.length c2, .int .i64 f.step.1, .int .i64 f.step.2, .int .i64 f.method] 27)).alloc (.cells #[.int .i64 mode, .int .i64 method, .int .i64 step.1, .int .i64 step.2] 29)) #[.slice none 0 0] 38
        rw [World.size_alloc] at hSB hZB
        rw [World.size_alloc] at hZB
        have hCF := FCheck_calls _ f A1 c1 A2 c2 (hf.more gw) (hG.more gw)
        have HCF := Lib.hid hCF
        have HF := Lib.hid (hf.more gw)
        have HSR := Lib.hid (hsr.more gw)
        have HFB := Lib.hid hFB
        have HSB := Lib.hid hSB
        have HZB := Lib.hid hZB
        have HGW := Lib.hid gw
        obtain ⟨p0, p1, p2, p3, p4⟩ := hFB
        obtain ⟨r0, r1, r2, r3, _⟩ := hSB.four
        clear hCF hf hG hsr g1 g2 g3 hSB hZB gw
        rw [h0] at HCF
        have HS : Hid ((if setB mode method step then (0 : Int) else 110) = 0) := Lib.hid (if_pos hs)
        have H0 := Lib.hid h0
        have HSEG := Lib.hid hsb
        clear hE hV hF hft h0 hs hsb
        go_enter Tryz.func13, Tryz.ntmps13
        go_wp2_with fail
        generalize ((w.alloc (.cells #[.slice A1 f.nodes.length c1, .slice A2 f.devs.length c2, .int .i64 f.step.1, .int .i64 f.step.2, .int .i64 f.method] 27)).alloc (.cells #[.int .i64 mode, .int .i64 method, .int .i64 step.1, .int .i64 step.2] 29)).alloc (.cells #[.slice none 0 0] 38) = wa at *
        generalize hsw : w.heap.size = s at *
        have HSW := Lib.hid hsw
        clear hsw
        refine HCF.out.mono ?_
        rintro e w1 ⟨rfl, hg1⟩
        clear p0 p1 p2 p3 p4 r0 r1 r2 r3
        obtain ⟨p0, p1, p2, p3, p4⟩ := HFB.out.more hg1
        obtain ⟨r0, r1, r2, r3, _⟩ := (HSB.out.more hg1).four
        go_wp2_with fail
        refine (SCheck_calls w1 mode method step i1 i2).mono ?_
        rintro e w2 ⟨he2, hg2⟩
        rw [HS.out] at he2
        subst he2
        clear p0 p1 p2 p3 p4 r0 r1 r2 r3
        have g12 := gb_trans hg1 hg2
        have K1 : ∀ w', w2.grownBy w' none → w'.cell? ⟨s, 0, none⟩ = some (.slice A1 f.nodes.length c1) ∧ w'.cell? ⟨s, 1, none⟩ = some (.slice A2 f.devs.length c2) ∧ w'.cell? ⟨s, 2, none⟩ = some (.int .i64 f.step.1) ∧ w'.cell? ⟨s, 3, none⟩ = some (.int .i64 f.step.2) ∧ w'.cell? ⟨s, 4, none⟩ = some (.int .i64 f.method) := fun w' h => by
          obtain ⟨a0, a1, a2, a3, a4⟩ := HFB.out.more (gb_trans g12 h); exact ⟨a0, a1, a2, a3, a4⟩
        obtain ⟨p0, p1, p2, p3, p4⟩ := K1 _ (gb_refl _ _)
        have HK := Lib.hid K1
        have HG12 := Lib.hid g12
        clear K1 hg1 hg2 g12
        go_wp2_with fail
        go_region_held3 (fun w' => w'.cell? ⟨s, 0, none⟩ = some (.slice A1 f.nodes.length c1) ∧ w'.cell? ⟨s, 1, none⟩ = some (.slice A2 f.devs.length c2) ∧ w'.cell? ⟨s, 2, none⟩ = some (.int .i64 f.step.1) ∧ w'.cell? ⟨s, 3, none⟩ = some (.int .i64 f.step.2) ∧ w'.cell? ⟨s, 4, none⟩ = some (.int .i64 f.method)) ((refine HK.out _ ?_; (focus ((repeat (first | assumption | exact gb_refl _ _ | exact gb_drew _ _ | exact gb_alloc _ _ _ | refine gb_trans ?_ (gb_alloc _ _ _) | refine gb_trans ?_ (gb_drew _ _) | refine gb_trans ?_ (by assumption))); done))))
         (first
         | (go_at_call 17; refine (Bent_calls _ f A1 c1 A2 c2 (HF.out.more (gb_trans HG12.out (by (focus ((repeat (first | assumption | exact gb_refl _ _ | exact gb_drew _ _ | exact gb_alloc _ _ _ | refine gb_trans ?_ (gb_alloc _ _ _) | refine gb_trans ?_ (gb_drew _ _) | refine gb_trans ?_ (by assumption))); done)))))).mono ?_; rintro e w3 ⟨v3, rfl, hr3, hf3, hg3⟩; obtain ⟨A3, c3, rfl, hr3'⟩ := hr3.intsForm)
         | (go_at_call 42; refine (segsRight_calls _ f A1 c1 A2 c2 (HF.out.more (gb_trans HG12.out (by (focus ((repeat (first | assumption | exact gb_refl _ _ | exact gb_drew _ _ | exact gb_alloc _ _ _ | refine gb_trans ?_ (gb_alloc _ _ _) | refine gb_trans ?_ (gb_drew _ _) | refine gb_trans ?_ (by assumption))); done))))) H0.out A3 c3 (Row.more hr3' (by (focus ((repeat (first | assumption | exact gb_refl _ _ | exact gb_drew _ _ | exact gb_alloc _ _ _ | refine gb_trans ?_ (gb_alloc _ _ _) | refine gb_trans ?_ (gb_drew _ _) | refine gb_trans ?_ (by assumption))); done)))) Aq cq segs (HSR.out.more (gb_trans HG12.out (by (focus ((repeat (first | assumption | exact gb_refl _ _ | exact gb_drew _ _ | exact gb_alloc _ _ _ | refine gb_trans ?_ (gb_alloc _ _ _) | refine gb_trans ?_ (gb_drew _ _) | refine gb_trans ?_ (by assumption))); done)))))).mono ?_; rintro e w4 ⟨he4, hg4⟩; rw [HSEG.out] at he4; subst he4))
        all_goals
          have hg4' := gb_trans HG12.out (show w2.grownBy w4 none by (focus ((repeat (first | assumption | exact gb_refl _ _ | exact gb_drew _ _ | exact gb_alloc _ _ _ | refine gb_trans ?_ (gb_alloc _ _ _) | refine gb_trans ?_ (gb_drew _ _) | refine gb_trans ?_ (by assumption))); done)))
          clear p0 p1 p2 p3 p4
          have hzb := HZB.out.more hg4'
          have z0 := hzb.cell 0
          have y0 := hzb.free 0
          simp only [List.getElem?_toArray, List.getElem?_cons_zero] at z0
          have HGA := Lib.hid (gb_trans HGW.out hg4')
          clear hzb
          go_wp2_with fail
          try simp only [Exit.inBlock, Exit.then]
          refine bodyPost_ret (v := .tuple #[.agg #[.slice none 0 0], .int .i64 111]) (by simp [results, Tryz.results13, go_sem, *]) rfl ⟨none, 0, rfl, SysRow.nil _, gb_new HGA.out (gb_set _ _ _ _) (by have := HSW.out; omega)⟩
      · have hs' : setB mode method step = false := by simpa using hs
        have hF : faultE f mode method step segs = 110 := by unfold faultE; rw [if_neg (by omega), if_pos hs']
        rw [hF]
        have g1 := gb_alloc w (.cells #[.slice A1 f.nodes.length c1, .slice A2 f.devs.length c2, .int .i64 f.step.1, .int .i64 f.step.2, .int .i64 f.method] 27) none
        have g2 := gb_alloc (w.alloc (.cells #[.slice A1 f.nodes.length c1, .slice A2 f.devs.length c2, .int .i64 f.step.1, .int .i64 f.step.2, .int .i64 f.method] 27)) (.cells #[.int .i64 mode, .int .i64 method, .int .i64 step.1, .int .i64 step.2] 29) none
        have g3 := gb_alloc ((w.alloc (.cells #[.slice A1 f.nodes.length c1, .slice A2 f.devs.length c2, .int .i64 f.step.1, .int .i64 f.step.2, .int .i64 f.method] 27)).alloc (.cells #[.int .i64 mode, .int .i64 method, .int .i64 step.1, .int .i64 step.2] 29)) (.cells #[.slice none 0 0] 38) none
        have gw := gb_trans g1 (gb_trans g2 g3)
        have hFB := (FlatBox.of (Blk.new w #[.slice A1 f.nodes.length c1, .slice A2 f.devs.length c2, .int .i64 f.step.1, .int .i64 f.step.2, .int .i64 f.method] 27)).more (gb_trans g2 g3)
        have hSB := (Blk.new (w.alloc (.cells #[.slice A1 f.nodes.length c1, .slice A2 f.devs.length c2, .int .i64 f.step.1, .int .i64 f.step.2, .int .i64 f.method] 27)) #[.int .i64 mode, .int .i64 method, .int .i64 step.1, .int .i64 step.2] 29).more g3
        have hZB := Blk.new ((w.alloc (.cells #[.slice A1 f.nodes.length c1, .slice A2 f.devs.length c2, .int .i64 f.step.1, .int .i64 f.step.2, .int .i64 f.method] 27)).alloc (.cells #[.int .i64 mode, .int .i64 method, .int .i64 step.1, .int .i64 step.2] 29)) #[.slice none 0 0] 38
        rw [World.size_alloc] at hSB hZB
        rw [World.size_alloc] at hZB
        have hCF := FCheck_calls _ f A1 c1 A2 c2 (hf.more gw) (hG.more gw)
        have HCF := Lib.hid hCF
        have HF := Lib.hid (hf.more gw)
        have HSR := Lib.hid (hsr.more gw)
        have HFB := Lib.hid hFB
        have HSB := Lib.hid hSB
        have HZB := Lib.hid hZB
        have HGW := Lib.hid gw
        obtain ⟨p0, p1, p2, p3, p4⟩ := hFB
        obtain ⟨r0, r1, r2, r3, _⟩ := hSB.four
        clear hCF hf hG hsr g1 g2 g3 hSB hZB gw
        rw [h0] at HCF
        have HS : Hid ((if setB mode method step then (0 : Int) else 110) = 110) := Lib.hid (if_neg hs)
        clear hE hV hF hft h0 hs hs'
        go_enter Tryz.func13, Tryz.ntmps13
        go_wp2_with fail
        generalize ((w.alloc (.cells #[.slice A1 f.nodes.length c1, .slice A2 f.devs.length c2, .int .i64 f.step.1, .int .i64 f.step.2, .int .i64 f.method] 27)).alloc (.cells #[.int .i64 mode, .int .i64 method, .int .i64 step.1, .int .i64 step.2] 29)).alloc (.cells #[.slice none 0 0] 38) = wa at *
        generalize hsw : w.heap.size = s at *
        have HSW := Lib.hid hsw
        clear hsw
        refine HCF.out.mono ?_
        rintro e w1 ⟨rfl, hg1⟩
        clear p0 p1 p2 p3 p4 r0 r1 r2 r3
        obtain ⟨p0, p1, p2, p3, p4⟩ := HFB.out.more hg1
        obtain ⟨r0, r1, r2, r3, _⟩ := (HSB.out.more hg1).four
        go_wp2_with fail
        refine (SCheck_calls w1 mode method step i1 i2).mono ?_
        rintro e w2 ⟨he2, hg2⟩
        rw [HS.out] at he2
        subst he2
        clear p0 p1 p2 p3 p4 r0 r1 r2 r3
        have g12 := gb_trans hg1 hg2
        have hzb := HZB.out.more g12
        have z0 := hzb.cell 0
        have y0 := hzb.free 0
        simp only [List.getElem?_toArray, List.getElem?_cons_zero] at z0
        have HGA := Lib.hid (gb_trans HGW.out g12)
        clear hzb
        go_wp2_with fail
        try simp only [Exit.inBlock, Exit.then]
        refine bodyPost_ret (v := .tuple #[.agg #[.slice none 0 0], .int .i64 110]) (by simp [results, Tryz.results13, go_sem, *]) rfl ⟨none, 0, rfl, SysRow.nil _, gb_new HGA.out (gb_set _ _ _ _) (by have := HSW.out; omega)⟩
    · have hF : faultE f mode method step segs = flatE f := by unfold faultE; rw [if_pos h0]
      rw [hF]
      clear hE hV hF hft
      have g1 := gb_alloc w (.cells #[.slice A1 f.nodes.length c1, .slice A2 f.devs.length c2, .int .i64 f.step.1, .int .i64 f.step.2, .int .i64 f.method] 27) none
      have g2 := gb_alloc (w.alloc (.cells #[.slice A1 f.nodes.length c1, .slice A2 f.devs.length c2, .int .i64 f.step.1, .int .i64 f.step.2, .int .i64 f.method] 27)) (.cells #[.int .i64 mode, .int .i64 method, .int .i64 step.1, .int .i64 step.2] 29) none
      have g3 := gb_alloc ((w.alloc (.cells #[.slice A1 f.nodes.length c1, .slice A2 f.devs.length c2, .int .i64 f.step.1, .int .i64 f.step.2, .int .i64 f.method] 27)).alloc (.cells #[.int .i64 mode, .int .i64 method, .int .i64 step.1, .int .i64 step.2] 29)) (.cells #[.slice none 0 0] 38) none
      have gw := gb_trans g1 (gb_trans g2 g3)
      have hFB := (FlatBox.of (Blk.new w #[.slice A1 f.nodes.length c1, .slice A2 f.devs.length c2, .int .i64 f.step.1, .int .i64 f.step.2, .int .i64 f.method] 27)).more (gb_trans g2 g3)
      have hSB := (Blk.new (w.alloc (.cells #[.slice A1 f.nodes.length c1, .slice A2 f.devs.length c2, .int .i64 f.step.1, .int .i64 f.step.2, .int .i64 f.method] 27)) #[.int .i64 mode, .int .i64 method, .int .i64 step.1, .int .i64 step.2] 29).more g3
      have hZB := Blk.new ((w.alloc (.cells #[.slice A1 f.nodes.length c1, .slice A2 f.devs.length c2, .int .i64 f.step.1, .int .i64 f.step.2, .int .i64 f.method] 27)).alloc (.cells #[.int .i64 mode, .int .i64 method, .int .i64 step.1, .int .i64 step.2] 29)) #[.slice none 0 0] 38
      rw [World.size_alloc] at hSB hZB
      rw [World.size_alloc] at hZB
      have hCF := FCheck_calls _ f A1 c1 A2 c2 (hf.more gw) (hG.more gw)
      have HCF := Lib.hid hCF
      have HF := Lib.hid (hf.more gw)
      have HSR := Lib.hid (hsr.more gw)
      have HFB := Lib.hid hFB
      have HSB := Lib.hid hSB
      have HZB := Lib.hid hZB
      have HGW := Lib.hid gw
      obtain ⟨p0, p1, p2, p3, p4⟩ := hFB
      obtain ⟨r0, r1, r2, r3, _⟩ := hSB.four
      clear hCF hf hG hsr g1 g2 g3 hSB hZB gw
      obtain ⟨E, hEE⟩ : ∃ E, flatE f = E := ⟨_, rfl⟩
      rw [hEE] at HCF h0 ⊢
      have t0 : (E != 0) = true := by rw [bne_iff_ne]; exact h0
      clear hEE h0
      go_enter Tryz.func13, Tryz.ntmps13
      go_wp2_with fail
      generalize ((w.alloc (.cells #[.slice A1 f.nodes.length c1, .slice A2 f.devs.length c2, .int .i64 f.step.1, .int .i64 f.step.2, .int .i64 f.method] 27)).alloc (.cells #[.int .i64 mode, .int .i64 method, .int .i64 step.1, .int .i64 step.2] 29)).alloc (.cells #[.slice none 0 0] 38) = wa at *
      generalize hsw : w.heap.size = s at *
      have HSW := Lib.hid hsw
      clear hsw
      refine HCF.out.mono ?_
      rintro e w1 ⟨rfl, hg1⟩
      clear p0 p1 p2 p3 p4 r0 r1 r2 r3
      have hzb := HZB.out.more hg1
      have z0 := hzb.cell 0
      have y0 := hzb.free 0
      simp only [List.getElem?_toArray, List.getElem?_cons_zero] at z0
      have HGA := Lib.hid (gb_trans HGW.out hg1)
      clear hzb
      go_wp2_with fail
      try simp only [Exit.inBlock, Exit.then]
      refine bodyPost_ret (v := .tuple #[.agg #[.slice none 0 0], .int .i64 E]) (by simp [results, Tryz.results13, go_sem, *]) rfl ⟨none, 0, rfl, SysRow.nil _, gb_new HGA.out (gb_set _ _ _ _) (by have := HSW.out; omega)⟩

end Go.Proofs.YtmfmfpmkgmkgiaaGreatDoor

namespace Go.Proofs.YtmfmfpmkgmkgiaaGreatDoor
open Go.RowKit Go.Maps

set_option maxRecDepth 100000 in
set_option maxHeartbeats 40000000 in
theorem bulky_calls (w : World) (f : FlatP) (A1 : Option Addr) (c1 : Nat) (A2 : Option Addr) (c2 : Nat) (hf : FlatAt w f A1 c1 A2 c2) :
    Calls Tryz.prog 11 #[.agg #[.slice A1 f.nodes.length c1, .slice A2 f.devs.length c2, .int .i64 f.step.1, .int .i64 f.step.2, .int .i64 f.method]] w fun e w' => ∃ b, e = .returned (.bool b) ∧ w.grownBy w' none := by
  have gw := gb_alloc w (.cells #[.slice A1 f.nodes.length c1, .slice A2 f.devs.length c2, .int .i64 f.step.1, .int .i64 f.step.2, .int .i64 f.method] 27) none
  have HFB := FlatBox.of (Blk.new w #[.slice A1 f.nodes.length c1, .slice A2 f.devs.length c2, .int .i64 f.step.1, .int .i64 f.step.2, .int .i64 f.method] 27)
  have HF := Lib.hid (hf.more gw)
  have HGW := Lib.hid gw
  have hnl : f.nodes.length ≤ 9223372036854775807 := by obtain ⟨A, c, e, h1, h2, _⟩ := hf.nodes; injection e with e1 e2 e3; omega
  have hdl : f.devs.length ≤ 9223372036854775807 := by obtain ⟨A, c, e, h1, h2, _⟩ := hf.devs; injection e with e1 e2 e3; omega
  clear hf gw
  obtain ⟨p0, p1, p2, p3, p4⟩ := HFB
  go_enter Tryz.func11, Tryz.ntmps11
  go_wp2_with fail
  generalize w.alloc (.cells #[.slice A1 f.nodes.length c1, .slice A2 f.devs.length c2, .int .i64 f.step.1, .int .i64 f.step.2, .int .i64 f.method] 27) = wa at *
  generalize w.heap.size = s at *
  go_loopw [3, 4] (fun zv i wr => ∃ (k : Nat) (z : Int), k ≤ f.devs.length ∧ i = .int .i64 k ∧ zv = .int .i64 z ∧ I64 z ∧ wa.grownBy wr none) (fun _ i _ => (f.devs.length - intOf i).toNat)
  case atStart => exact ⟨0, f.nodes.length, by omega, rfl, rfl, ⟨by omega, by omega⟩, gb_refl _ _⟩
  case round =>
    obtain ⟨k, z, hk, rfl, rfl, hz, hg⟩ := hrel
    have p1 := gb_cell hg p1 (by simp)
    by_cases hlt : k < f.devs.length
    · by_cases hz4 : z < 2000
      · obtain ⟨b, o, An, cn, Av, cv, As, cs, Ag, cg, Am, cm, rfl, hat, hc⟩ := (HF.out.more hg).devs.at2 hlt
        generalize f.devs.getD k dev0 = d at *
        obtain ⟨q0, q1, q2, q3, q4, q5, q6, q7, q8, q9, q10, q11, q12⟩ := hc
        have ga := gb_alloc wr (.cells #[.int .u8 d.kind, .string d.name, .slice An d.nodes.length cn, .int .i64 d.ref, .int .i64 d.val.1, .int .i64 d.val.2, .int .i64 d.wkind, .slice Av d.wvals.length cv, .slice As d.wsteps.length cs, .string d.mname, .int .u8 d.mkind, .slice Ag d.mg.length cg, .slice Am d.mv.length cm] 89) none
        obtain ⟨m0, m1, m2, m3, m4, m5, m6, m7, m8, m9, m10, m11, m12⟩ := DevBox.of (Blk.new wr #[.int .u8 d.kind, .string d.name, .slice An d.nodes.length cn, .int .i64 d.ref, .int .i64 d.val.1, .int .i64 d.val.2, .int .i64 d.wkind, .slice Av d.wvals.length cv, .slice As d.wsteps.length cs, .string d.mname, .int .u8 d.mkind, .slice Ag d.mg.length cg, .slice Am d.mv.length cm] 89)
        have HGA := Lib.hid (gb_trans hg ga)
        have HLT := Lib.hid hlt
        clear hat hg ga hz
        go_wp2_with fail
        have hlt2 := HLT.out
        exact ⟨⟨k + 1, _, hlt2, by go_num, rfl, w64_in _, HGA.out⟩, by simp only [intOf]; omega⟩
      · as_aux_lemma =>
          go_wp2_with fail
          go_ret
          exact ⟨.inr rfl, gb_trans HGW.out hg⟩
    · as_aux_lemma =>
        obtain rfl : k = f.devs.length := by omega
        go_wp2_with fail
        go_ret
        first | exact ⟨decide (2000 ≤ z), rfl, gb_trans HGW.out hg⟩ | exact ⟨decide ((2000 : Int) ≤ z), by simp, gb_trans HGW.out hg⟩ | exact ⟨rfl, gb_trans HGW.out hg⟩

set_option maxHeartbeats 40000000 in
theorem Branched_calls (w : World) (k : Int) (h0 : 0 ≤ k) (h1 : k ≤ 255) :
    Calls Tryz.prog 74 #[.int .u8 k] w fun e w' => e = .returned (.bool (isBr k)) ∧ w' = w := by
  obtain ⟨R, hR⟩ : ∃ R, isBr k = R := ⟨_, rfl⟩
  rw [hR]
  have HR := Lib.hid hR
  clear hR
  go_enter Tryz.func74, Tryz.ntmps74
  go_wp2_with fail
  all_goals
    have hR := HR.out
    go_ret
    exact ⟨by rw [← hR]; first | rfl | (simp [isBr]; done) | (simp [isBr]; omega), rfl⟩

set_option maxRecDepth 100000 in
set_option maxHeartbeats 40000000 in
theorem MCount_calls (w : World) (f : FlatP) (A1 : Option Addr) (c1 : Nat) (A2 : Option Addr) (c2 : Nat) (hf : FlatAt w f A1 c1 A2 c2) (hl1 : f.nodes.length ≤ 1099511627776) (hl2 : f.devs.length ≤ 1099511627776) :
    Calls Tryz.prog 29 #[.agg #[.slice A1 f.nodes.length c1, .slice A2 f.devs.length c2, .int .i64 f.step.1, .int .i64 f.step.2, .int .i64 f.method]] w fun e w' => ∃ v, e = .returned (.tuple #[.int .i64 (unk f), v]) ∧ w.grownBy w' none := by
  have gw := gb_alloc w (.cells #[.slice A1 f.nodes.length c1, .slice A2 f.devs.length c2, .int .i64 f.step.1, .int .i64 f.step.2, .int .i64 f.method] 27) none
  obtain ⟨m0, m1, m2, m3, m4⟩ := FlatBox.of (Blk.new w #[.slice A1 f.nodes.length c1, .slice A2 f.devs.length c2, .int .i64 f.step.1, .int .i64 f.step.2, .int .i64 f.method] 27)
  have HF := Lib.hid (hf.more gw)
  have HU : Hid (unk f = (f.nodes.length : Int) - 1 + nbr f.devs f.devs.length) := Lib.hid rfl
  clear hf
  go_enter Tryz.func29, Tryz.ntmps29
  go_wp2_with fail
  generalize w.alloc (.cells #[.slice A1 f.nodes.length c1, .slice A2 f.devs.length c2, .int .i64 f.step.1, .int .i64 f.step.2, .int .i64 f.method] 27) = wa at *
  generalize w.heap.size = s at *
  go_loopw [4, 5, 6] (fun n v i wr => ∃ k : Nat, k ≤ f.devs.length ∧ i = .int .i64 k ∧ n = .int .i64 ((f.nodes.length : Int) - 1 + (nbr f.devs k : Nat)) ∧ Hid (∃ xs, wr.ownsRow wa.heap.size 3 1 v k xs) ∧ wa.grownBy wr none) (fun _ _ i _ => (f.devs.length - intOf i).toNat)
  case atStart => exact ⟨0, by omega, rfl, by simp [nbr], Lib.hid ⟨_, World.ownsRow_nil _ _ _ _⟩, gb_refl _ _⟩
  case round =>
    obtain ⟨k, hk, rfl, rfl, hown, hg⟩ := hrel
    have hnb := nbr_le f.devs k
    have m1 := gb_cell hg m1 (by simp)
    by_cases hlt : k < f.devs.length
    · obtain ⟨b, o, An, cn, Av, cv, As, cs, Ag, cg, Am, cm, rfl, hat, hc⟩ := (HF.out.more hg).devs.at2 hlt
      obtain ⟨xs, hown2⟩ := hown.out
      have hnsu := nbr_succ hlt
      generalize f.devs.getD k dev0 = d at *
      obtain ⟨q0, q1, q2, q3, q4, q5, q6, q7, q8, q9, q10, q11, q12⟩ := hc
      have HBR := Lib.hid (fun W => Branched_calls W d.kind hat.kind.1 hat.kind.2)
      have hsb := hg.size
      clear q1 q2 q3 q4 q5 q6 q7 q8 q9 q10 q11 q12 hat hown
      cases hb : isBr d.kind with
      | true =>
        rw [hb] at hnsu HBR
        rw [if_pos rfl] at hnsu
        have HI := Lib.hid hnsu
        clear hnsu hb
        go_wp2_with fail
        refine (HBR.out _).mono ?_
        rintro e w1 ⟨rfl, rfl⟩
        have hi := HI.out
        go_wp2_with (first
          | (at_builtin; refine app_one wa.heap.size rfl (.tmp 25) (.tmp 27) 30 3 (.int .i64 0) 1 8 rfl Tryz.underlying30 intinfo rfl (by omega) (by omega) u5 k xs #[.int .i64 ((f.nodes.length : Int) - 1 + (nbr f.devs k : Nat))] (by rfl) hown2 (by rfl) rfl (by simp [Value.oneCell']) (by omega) (by omega) ?_; intro v1 w1 hown1 hg1 hat1)
          | go_in)
        go_roundw
        case rel => exact ⟨k + 1, by omega, by go_num, num_eq (by rw [HI.out]; omega), Lib.hid ⟨_, hown1⟩, gb_from hg hg1 (own_from hown2)⟩
        case measure => simp [intOf]; omega
      | false =>
        rw [hb] at hnsu HBR
        rw [if_neg (by simp)] at hnsu
        have HI := Lib.hid hnsu
        clear hnsu hb
        go_wp2_with fail
        refine (HBR.out _).mono ?_
        rintro e w1 ⟨rfl, rfl⟩
        have hi := HI.out
        go_wp2_with (first
          | (at_builtin; refine app_one wa.heap.size rfl (.tmp 31) (.tmp 32) 30 3 (.int .i64 0) 1 8 rfl Tryz.underlying30 intinfo rfl (by omega) (by omega) u5 k xs #[.int .i64 (-1)] (by rfl) hown2 (by rfl) rfl (by simp [Value.oneCell']) (by omega) (by omega) ?_; intro v1 w1 hown1 hg1 hat1)
          | go_in)
        go_roundw
        case rel => exact ⟨k + 1, by omega, by go_num, num_eq (by rw [HI.out]; omega), Lib.hid ⟨_, hown1⟩, gb_from hg hg1 (own_from hown2)⟩
        case measure => simp [intOf]; omega
    · obtain rfl : k = f.devs.length := by omega
      go_wp2
      go_ret2
      exact ⟨_, rfl, gb_trans gw hg⟩

end Go.Proofs.YtmfmfpmkgmkgiaaGreatDoor
