/- Contracts of the program's functions, and what they rest on: SrcA LawC StB StC StD. -/
import Derived.Test.YtmfmfpmkgmkgiaaGreatDoorMal
import Derived.Test.YtmfmfpmkgmkgiaaGreatDoorMaq
import Derived.Test.YtmfmfpmkgmkgiaaGreatDoorMan
import Derived.Test.YtmfmfpmkgmkgiaaGreatDoorMai
import Derived.Deep.RegionLaw
import Derived.Deep.DrawnRows
set_option linter.unusedVariables false
set_option linter.unusedSimpArgs false
namespace Go.Proofs.YtmfmfpmkgmkgiaaGreatDoor
open Go.RowKit Go.Maps

theorem Row.introw {w : World} {v : Value} {l : List Int} (h : Row w v (ints l)) (hi : ∀ x ∈ l, I64 x) : IntRow w v l := by
  obtain ⟨A, c, rfl, h1, h2, h3⟩ := h
  have hl : (ints l).length = l.length := by simp [ints]
  rw [hl] at h1
  refine ⟨A, c, by rw [hl], h1, h2, hi, fun hp => ?_⟩
  rcases h3 with ⟨h0, _⟩ | ⟨b, o, rfl, h3⟩
  · have := congrArg List.length h0; rw [hl] at this; exact absurd (show l.length = 0 from this) (by omega)
  · refine ⟨b, o, rfl, fun i hj => ?_⟩
    rw [h3 i (by omega)]
    simp [ints, hj, List.getD]
theorem int64info : (Tryz.prog.info? 2).map (fun i => (i.zero, i.size, i.bytes)) = some (some (.int .i64 0), 1, 8) := by kernel_rfl
def isSrc (k : Int) : Bool := decide (k = 118) || decide (k = 105)
def srcs (ds : List DevP) (step : Int) : Nat → List Int
  | 0 => []
  | t + 1 => srcs ds step t ++ [if isSrc (ds.getD t dev0).kind then dcV (ds.getD t dev0).wvals step else 0]
theorem srcs_length (ds : List DevP) (step : Int) : ∀ t, (srcs ds step t).length = t
  | 0 => rfl
  | t + 1 => by
    have := srcs_length ds step t
    simp only [srcs, List.length_append, List.length_cons, List.length_nil]
    omega
theorem srcs_succ (ds : List DevP) (step : Int) (t : Nat) : srcs ds step (t + 1) = srcs ds step t ++ [if isSrc (ds.getD t dev0).kind then dcV (ds.getD t dev0).wvals step else 0] := rfl

set_option maxRecDepth 100000 in
set_option maxHeartbeats 40000000 in
theorem Sources0_calls (w : World) (f : FlatP) (A1 : Option Addr) (c1 : Nat) (A2 : Option Addr) (c2 : Nat) (hf : FlatAt w f A1 c1 A2 c2) (hG : GlobOK w) (h0 : flatE f = 0) (step : Int)
    (hw : ∀ k, k < f.devs.length → isSrc (f.devs.getD k dev0).kind = true → (f.devs.getD k dev0).wkind = 1 ∧ WaveOK 1 (f.devs.getD k dev0).wvals (f.devs.getD k dev0).wsteps ∧ dcE (f.devs.getD k dev0).wvals step = 0) :
    Calls Tryz.prog 27 #[.agg #[.slice A1 f.nodes.length c1, .slice A2 f.devs.length c2, .int .i64 f.step.1, .int .i64 f.step.2, .int .i64 f.method], .int .i64 step] w fun e w' => ∃ v, e = .returned (.tuple #[v, .int .i64 0]) ∧ Row w' v (ints (srcs f.devs step f.devs.length)) ∧ w.grownBy w' none := by
  have gw := gb_alloc w (.cells #[.slice A1 f.nodes.length c1, .slice A2 f.devs.length c2, .int .i64 f.step.1, .int .i64 f.step.2, .int .i64 f.method] 27) none
  have hB := FlatBox.of (Blk.new w #[.slice A1 f.nodes.length c1, .slice A2 f.devs.length c2, .int .i64 f.step.1, .int .i64 f.step.2, .int .i64 f.method] 27)
  have HB := Lib.hid hB
  have HF := Lib.hid hf
  have hn2 := hf.n2
  have HW := Lib.hid hw
  have HC := Lib.hid (FCheck_calls (w.alloc (.cells #[.slice A1 f.nodes.length c1, .slice A2 f.devs.length c2, .int .i64 f.step.1, .int .i64 f.step.2, .int .i64 f.method] 27)) f A1 c1 A2 c2 (hf.more gw) (hG.more gw))
  rw [h0] at HC
  obtain ⟨p0, p1, p2, p3, p4⟩ := hB
  have HGW := Lib.hid gw
  clear hf hG h0 hw gw
  go_enter Tryz.func27, Tryz.ntmps27
  go_wp2_with fail
  generalize w.alloc (.cells #[.slice A1 f.nodes.length c1, .slice A2 f.devs.length c2, .int .i64 f.step.1, .int .i64 f.step.2, .int .i64 f.method] 27) = wa at *
  generalize hs : w.heap.size = s at *
  clear hs
  refine HC.out.mono ?_
  rintro e w1 ⟨rfl, hg1⟩
  have HG1 := Lib.hid (gb_trans HGW.out hg1)
  obtain ⟨p0, p1, p2, p3, p4⟩ := HB.out.more hg1
  clear hg1 HC HGW
  go_wp2_with fail
  go_loopw [7, 20] (fun v i wr => ∃ k : Nat, k ≤ f.devs.length ∧ i = .int .i64 k ∧ wr.ownsRow w1.heap.size 2 1 v k (ints (srcs f.devs step k)) ∧ w1.grownBy wr none) (fun _ i _ => (f.devs.length - intOf i).toNat)
  case atStart => exact ⟨0, by omega, rfl, World.ownsRow_nil _ _ _ _, gb_refl _ _⟩
  case round =>
    obtain ⟨k, hk, rfl, hown, hg⟩ := hrel
    have hbl := srcs_length f.devs step k
    by_cases hlt : k < f.devs.length
    · obtain ⟨b, o, An, cn, Av, cv, As, cs, Ag, cg, Am, cm, rfl, hat, hc⟩ := (HF.out.more (gb_trans HG1.out hg)).devs.at2 hlt
      have hbs := srcs_succ f.devs step k
      have hwk := HW.out k hlt
      generalize f.devs.getD k dev0 = d at *
      obtain ⟨q0, q1, q2, q3, q4, q5, q6, q7, q8, q9, q10, q11, q12⟩ := hc
      have ga := gb_alloc wr (.cells #[.int .u8 d.kind, .string d.name, .slice An d.nodes.length cn, .int .i64 d.ref, .int .i64 d.val.1, .int .i64 d.val.2, .int .i64 d.wkind, .slice Av d.wvals.length cv, .slice As d.wsteps.length cs, .string d.mname, .int .u8 d.mkind, .slice Ag d.mg.length cg, .slice Am d.mv.length cm] 89) none
      obtain ⟨r0, -, -, -, -, -, r6, r7, r8, -, -, -, -⟩ := DevBox.of (Blk.new wr #[.int .u8 d.kind, .string d.name, .slice An d.nodes.length cn, .int .i64 d.ref, .int .i64 d.val.1, .int .i64 d.val.2, .int .i64 d.wkind, .slice Av d.wvals.length cv, .slice As d.wsteps.length cs, .string d.mname, .int .u8 d.mkind, .slice Ag d.mg.length cg, .slice Am d.mv.length cm] 89)
      have hown2 := hown.alloc (.cells #[.int .u8 d.kind, .string d.name, .slice An d.nodes.length cn, .int .i64 d.ref, .int .i64 d.val.1, .int .i64 d.val.2, .int .i64 d.wkind, .slice Av d.wvals.length cv, .slice As d.wsteps.length cs, .string d.mname, .int .u8 d.mkind, .slice Ag d.mg.length cg, .slice Am d.mv.length cm] 89)
      have hsb := (gb_trans hg ga).size
      by_cases hb : d.kind = 118 ∨ d.kind = 105
      · have hbb : isSrc d.kind = true := by unfold isSrc; rcases hb with h | h <;> simp [h]
        rw [if_pos hbb] at hbs
        obtain ⟨hk1, hok, he⟩ := hwk hbb
        have hwc := (WAt1_calls (wr.alloc (.cells #[.int .u8 d.kind, .string d.name, .slice An d.nodes.length cn, .int .i64 d.ref, .int .i64 d.val.1, .int .i64 d.val.2, .int .i64 d.wkind, .slice Av d.wvals.length cv, .slice As d.wsteps.length cs, .string d.mname, .int .u8 d.mkind, .slice Ag d.mg.length cg, .slice Am d.mv.length cm] 89)) (.slice Av d.wvals.length cv) (.slice As d.wsteps.length cs) d.wvals d.wsteps step (hat.vals.more ga) (hat.steps.more ga) hok)
        rw [he, ← hk1] at hwc
        have HWC := Lib.hid hwc
        clear hwc
        generalize dcV d.wvals step = V at *
        have HBS := Lib.hid hbs
        have HGA := Lib.hid (gb_trans hg ga)
        have HOW := Lib.hid hown2
        have HLT := Lib.hid hlt
        have hkk : (d.kind == 118) = true ∨ ((d.kind == 118) = false ∧ (d.kind == 105) = true) := by
          simp only [beq_iff_eq, beq_eq_false_iff_ne]; omega
        clear hbs hb hbb hat hok he hk1 hwk hg ga hown hown2
        rcases hkk with t118 | ⟨t118, t105⟩
        all_goals
          go_wp2_with fail
          generalize wr.alloc (.cells #[.int .u8 d.kind, .string d.name, .slice An d.nodes.length cn, .int .i64 d.ref, .int .i64 d.val.1, .int .i64 d.val.2, .int .i64 d.wkind, .slice Av d.wvals.length cv, .slice As d.wsteps.length cs, .string d.mname, .int .u8 d.mkind, .slice Ag d.mg.length cg, .slice Am d.mv.length cm] 89) = wb at HWC HGA HOW r0 r6 r7 r8 hsb ⊢
          refine HWC.out.mono ?_
          rintro e w3 ⟨rfl, hg3⟩
          have hown2 := own_more' HOW.out hg3
          have HGC := Lib.hid (gb_trans HGA.out hg3)
          have hs3 := hg3.size
          have HO2 := Lib.hid hown2
          clear hg3 r0 r6 r7 r8
          go_wp2_with (first
            | (at_builtin; refine app_one w1.heap.size rfl (.tmp 41) (.tmp 43) 59 2 (.int .i64 0) 1 8 rfl Tryz.underlying59 int64info rfl (by omega) (by omega) u7 k (ints (srcs f.devs step k)) #[.int .i64 V] (by rfl) hown2 (by rfl) rfl (by simp [Value.oneCell']) (by omega) (by omega) ?_; intro v1 w5 hown1 hg5 hat1)
            | fail)
          go_roundw
          case rel => exact ⟨k + 1, by omega, by go_num, by rw [HBS.out, ints_append]; exact hown1, gb_from HGC.out hg5 (own_from HO2.out)⟩
          case measure => simp [intOf]; omega
      · have hbb : isSrc d.kind = false := by unfold isSrc; simp; omega
        rw [if_neg (by rw [hbb]; simp)] at hbs
        have HBS := Lib.hid hbs
        have t118 : (d.kind == 118) = false := by rw [beq_eq_false_iff_ne]; omega
        have t105 : (d.kind == 105) = false := by rw [beq_eq_false_iff_ne]; omega
        clear hbs hb hbb hat hwk
        have HGC := Lib.hid (gb_trans hg ga)
        have HO2 := Lib.hid hown2
        go_upto_region 14 with (fail)
        generalize wr.alloc (.cells #[.int .u8 d.kind, .string d.name, .slice An d.nodes.length cn, .int .i64 d.ref, .int .i64 d.val.1, .int .i64 d.val.2, .int .i64 d.wkind, .slice Av d.wvals.length cv, .slice As d.wsteps.length cs, .string d.mname, .int .u8 d.mkind, .slice Ag d.mg.length cg, .slice Am d.mv.length cm] 89) = w3 at *
        go_wp2_with (first
          | (at_builtin; refine app_one w1.heap.size rfl (.tmp 41) (.tmp 43) 59 2 (.int .i64 0) 1 8 rfl Tryz.underlying59 int64info rfl (by omega) (by omega) u7 k (ints (srcs f.devs step k)) #[.int .i64 0] (by rfl) hown2 (by rfl) rfl (by simp [Value.oneCell']) (by omega) (by omega) ?_; intro v1 w5 hown1 hg5 hat1)
          | fail)
        go_roundw
        case rel => exact ⟨k + 1, by omega, by go_num, by rw [HBS.out, ints_append]; exact hown1, gb_from HGC.out hg5 (own_from HO2.out)⟩
        case measure => simp [intOf]; omega
    · obtain rfl : k = f.devs.length := by omega
      have HR := Lib.hid (own_row hown)
      clear hown
      go_wp2_with fail
      go_ret2
      exact ⟨_, rfl, HR.out, gb_trans HG1.out hg⟩

end Go.Proofs.YtmfmfpmkgmkgiaaGreatDoor

namespace Go.Proofs.YtmfmfpmkgmkgiaaGreatDoor
open Go.RowKit Go.Maps

def bs (l : List UInt8) : ByteArray := ⟨l.toArray⟩
def circD : List DevP := [⟨118, bs [118, 49], [1, 0], 0, (0, 0), 1, [(5, 0)], [], ByteArray.empty, 0, [], []⟩, ⟨114, bs [114, 49], [1, 2], 0, (1, 3), 0, [], [], ByteArray.empty, 0, [], []⟩, ⟨114, bs [114, 50], [2, 0], 0, (2, 3), 0, [], [], ByteArray.empty, 0, [], []⟩]
def circF : FlatP := ⟨[bs [48], bs [97], bs [98]], circD, (1, 0), 1⟩
instance (x : Int) : Decidable (I64 x) := by unfold I64; infer_instance
instance (d : DevP) : Decidable d.small := by unfold DevP.small; infer_instance
theorem blk_row {W : World} {b : Nat} {cs : List Value} (h : Blk W b cs.toArray) (hl : cs.length ≤ 9223372036854775807) : Row W (.slice (some ⟨b, 0, none⟩) cs.length cs.length) cs := by
  refine ⟨_, _, rfl, Nat.le_refl _, hl, .inr ⟨b, 0, rfl, fun i hi => ?_⟩⟩
  rw [h.cell, Nat.zero_add]
  simp
theorem blk_ints {W : World} {b : Nat} {l : List Int} (h : Blk W b (ints l).toArray) (hl : l.length ≤ 9223372036854775807) (hi : ∀ x ∈ l, I64 x) : IntRow W (.slice (some ⟨b, 0, none⟩) l.length l.length) l := by
  have e : (ints l).length = l.length := by simp [ints]
  have := Row.introw (blk_row h (by rw [e]; exact hl)) hi
  rw [e] at this
  exact this
theorem ints_nil (W : World) : IntRow W (.slice none 0 0) [] := ⟨none, 0, rfl, Nat.le_refl _, by omega, by simp, fun h => by simp at h⟩
theorem nums_nil (W : World) : NumRow W (.slice none 0 0) [] := ⟨none, 0, rfl, Nat.le_refl _, by omega, by simp, fun h => by simp at h⟩
def dcells (d : DevP) (vn vv : Value) : List Value := [.int .u8 d.kind, .string d.name, vn, .int .i64 d.ref, .int .i64 d.val.1, .int .i64 d.val.2, .int .i64 d.wkind, vv, .slice none 0 0, .string ByteArray.empty, .int .u8 0, .slice none 0 0, .slice none 0 0]
theorem circ_at {W : World} {s2 s3 s4 s5 s6 s7 : Nat} (h2 : Blk W s2 (strs circF.nodes).toArray) (h3 : Blk W s3 (ints [1, 0]).toArray) (h4 : Blk W s4 #[.int .i64 5, .int .i64 0]) (h5 : Blk W s5 (ints [1, 2]).toArray) (h6 : Blk W s6 (ints [2, 0]).toArray)
    (h7 : Blk W s7 (dcells (circD.getD 0 dev0) (.slice (some ⟨s3, 0, none⟩) 2 2) (.slice (some ⟨s4, 0, none⟩) 1 1) ++ dcells (circD.getD 1 dev0) (.slice (some ⟨s5, 0, none⟩) 2 2) (.slice none 0 0) ++ dcells (circD.getD 2 dev0) (.slice (some ⟨s6, 0, none⟩) 2 2) (.slice none 0 0)).toArray) :
    FlatAt W circF (some ⟨s2, 0, none⟩) 3 (some ⟨s7, 0, none⟩) 3 := by
  have r3 := blk_ints h3 (by simp) (by simp [I64])
  have r5 := blk_ints h5 (by simp) (by simp [I64])
  have r6 := blk_ints h6 (by simp) (by simp [I64])
  have r4 : NumRow W (.slice (some ⟨s4, 0, none⟩) 1 1) [(5, 0)] := ⟨_, _, rfl, Nat.le_refl _, by omega, by simp [I64], fun _ => ⟨s4, 0, rfl, fun i hi => by
    have : i = 0 := by simp at hi; omega
    subst this
    exact ⟨h4.cell 0, h4.cell 1⟩⟩⟩
  refine ⟨blk_row h2 (by simp [strs, circF]), ?_, ⟨_, _, rfl, Nat.le_refl _, by simp [circF, circD], fun _ => ⟨s7, 0, rfl, fun i hi => ?_⟩⟩, by simp [circF, I64], by simp [circF, I64], by simp [circF, I64], by simp [circF], by simp [circF, circD]⟩
  · intro x hx
    simp [circF] at hx
    rcases hx with rfl | rfl | rfl <;> decide
  · have hi : i = 0 ∨ i = 1 ∨ i = 2 := by simp [circF, circD] at hi; omega
    rcases hi with rfl | rfl | rfl
    · refine ⟨dcells (circD.getD 0 dev0) (.slice (some ⟨s3, 0, none⟩) 2 2) (.slice (some ⟨s4, 0, none⟩) 1 1), ⟨by decide, by decide, by decide, by decide, by decide, by decide, by decide, by decide, _, _, _, _, _, rfl, r3, r4, ints_nil _, nums_nil _, nums_nil _⟩, fun j hj => ?_⟩
      rw [h7.cell]
      rcases j with _ | _ | _ | _ | _ | _ | _ | _ | _ | _ | _ | _ | _ | j <;> first | rfl | omega
    · refine ⟨dcells (circD.getD 1 dev0) (.slice (some ⟨s5, 0, none⟩) 2 2) (.slice none 0 0), ⟨by decide, by decide, by decide, by decide, by decide, by decide, by decide, by decide, _, _, _, _, _, rfl, r5, nums_nil _, ints_nil _, nums_nil _, nums_nil _⟩, fun j hj => ?_⟩
      rw [h7.cell]
      rcases j with _ | _ | _ | _ | _ | _ | _ | _ | _ | _ | _ | _ | _ | j <;> first | rfl | omega
    · refine ⟨dcells (circD.getD 2 dev0) (.slice (some ⟨s6, 0, none⟩) 2 2) (.slice none 0 0), ⟨by decide, by decide, by decide, by decide, by decide, by decide, by decide, by decide, _, _, _, _, _, rfl, r6, nums_nil _, ints_nil _, nums_nil _, nums_nil _⟩, fun j hj => ?_⟩
      rw [h7.cell]
      rcases j with _ | _ | _ | _ | _ | _ | _ | _ | _ | _ | _ | _ | _ | j <;> first | rfl | omega
theorem circ_post {P : Program} {fn : Func} {R : Ending → World → Prop} {a : Act} (w : World) (c0 c1 c2 c3 c4 c5 c6 c7 : Array Value) (T0 T1 T2 T3 T4 T5 T6 T7 : TypeId)
    (h : ∀ W, Blk W w.heap.size c0 → Blk W (w.heap.size + 1 + 1) c2 → Blk W (w.heap.size + 1 + 1 + 1) c3 → Blk W (w.heap.size + 1 + 1 + 1 + 1) c4 → Blk W (w.heap.size + 1 + 1 + 1 + 1 + 1) c5 → Blk W (w.heap.size + 1 + 1 + 1 + 1 + 1 + 1) c6 → Blk W (w.heap.size + 1 + 1 + 1 + 1 + 1 + 1 + 1) c7 → w.grownBy W none → bodyPost P fn R .ret a W) :
    bodyPost P fn R .ret a ((((((((w.alloc (.cells c0 T0)).alloc (.cells c1 T1)).alloc (.cells c2 T2)).alloc (.cells c3 T3)).alloc (.cells c4 T4)).alloc (.cells c5 T5)).alloc (.cells c6 T6)).alloc (.cells c7 T7)) := by
  have b0 := Blk.new w c0 T0
  have b2 := Blk.new ((w.alloc (.cells c0 T0)).alloc (.cells c1 T1)) c2 T2
  have b3 := Blk.new (((w.alloc (.cells c0 T0)).alloc (.cells c1 T1)).alloc (.cells c2 T2)) c3 T3
  have b4 := Blk.new ((((w.alloc (.cells c0 T0)).alloc (.cells c1 T1)).alloc (.cells c2 T2)).alloc (.cells c3 T3)) c4 T4
  have b5 := Blk.new (((((w.alloc (.cells c0 T0)).alloc (.cells c1 T1)).alloc (.cells c2 T2)).alloc (.cells c3 T3)).alloc (.cells c4 T4)) c5 T5
  have b6 := Blk.new ((((((w.alloc (.cells c0 T0)).alloc (.cells c1 T1)).alloc (.cells c2 T2)).alloc (.cells c3 T3)).alloc (.cells c4 T4)).alloc (.cells c5 T5)) c6 T6
  have b7 := Blk.new (((((((w.alloc (.cells c0 T0)).alloc (.cells c1 T1)).alloc (.cells c2 T2)).alloc (.cells c3 T3)).alloc (.cells c4 T4)).alloc (.cells c5 T5)).alloc (.cells c6 T6)) c7 T7
  simp only [World.size_alloc] at b2 b3 b4 b5 b6 b7
  exact h _ (b0.more (by (focus ((repeat (first | assumption | exact gb_refl _ _ | exact gb_drew _ _ | exact gb_alloc _ _ _ | refine gb_trans ?_ (gb_alloc _ _ _) | refine gb_trans ?_ (gb_drew _ _) | refine gb_trans ?_ (by assumption))); done)))) (b2.more (by (focus ((repeat (first | assumption | exact gb_refl _ _ | exact gb_drew _ _ | exact gb_alloc _ _ _ | refine gb_trans ?_ (gb_alloc _ _ _) | refine gb_trans ?_ (gb_drew _ _) | refine gb_trans ?_ (by assumption))); done)))) (b3.more (by (focus ((repeat (first | assumption | exact gb_refl _ _ | exact gb_drew _ _ | exact gb_alloc _ _ _ | refine gb_trans ?_ (gb_alloc _ _ _) | refine gb_trans ?_ (gb_drew _ _) | refine gb_trans ?_ (by assumption))); done)))) (b4.more (by (focus ((repeat (first | assumption | exact gb_refl _ _ | exact gb_drew _ _ | exact gb_alloc _ _ _ | refine gb_trans ?_ (gb_alloc _ _ _) | refine gb_trans ?_ (gb_drew _ _) | refine gb_trans ?_ (by assumption))); done)))) (b5.more (by (focus ((repeat (first | assumption | exact gb_refl _ _ | exact gb_drew _ _ | exact gb_alloc _ _ _ | refine gb_trans ?_ (gb_alloc _ _ _) | refine gb_trans ?_ (gb_drew _ _) | refine gb_trans ?_ (by assumption))); done)))) (b6.more (by (focus ((repeat (first | assumption | exact gb_refl _ _ | exact gb_drew _ _ | exact gb_alloc _ _ _ | refine gb_trans ?_ (gb_alloc _ _ _) | refine gb_trans ?_ (gb_drew _ _) | refine gb_trans ?_ (by assumption))); done)))) b7 (by (focus ((repeat (first | assumption | exact gb_refl _ _ | exact gb_drew _ _ | exact gb_alloc _ _ _ | refine gb_trans ?_ (gb_alloc _ _ _) | refine gb_trans ?_ (gb_drew _ _) | refine gb_trans ?_ (by assumption))); done)))
set_option maxRecDepth 100000 in
set_option maxHeartbeats 40000000 in
theorem circuit_calls (w : World) :
    Calls Tryz.prog 39 #[] w fun e w' => ∃ A1 A2, e = .returned (.agg #[.slice A1 3 3, .slice A2 3 3, .int .i64 1, .int .i64 0, .int .i64 1]) ∧ FlatAt w' circF A1 3 A2 3 ∧ w.grownBy w' none := by
  go_enter Tryz.func39, Tryz.ntmps39
  go_wp2_with fail
  refine circ_post w _ _ _ _ _ _ _ _ _ _ _ _ _ _ _ _ (fun W b0 b2 b3 b4 b5 b6 b7 hg => ?_)
  refine bodyPost_ret (v := .agg #[.slice (some ⟨w.heap.size + 1 + 1, 0, none⟩) 3 3, .slice (some ⟨w.heap.size + 1 + 1 + 1 + 1 + 1 + 1 + 1, 0, none⟩) 3 3, .int .i64 1, .int .i64 0, .int .i64 1]) (by simp [results, Tryz.results39, go_sem, b0.cell]) rfl ⟨_, _, rfl, circ_at b2 b3 b4 b5 b6 b7, hg⟩

end Go.Proofs.YtmfmfpmkgmkgiaaGreatDoor

namespace Go.Proofs.YtmfmfpmkgmkgiaaGreatDoor
open Go.RowKit Go.Maps
open Rat

set_option maxRecDepth 100000 in
set_option maxHeartbeats 40000000 in
theorem put_calls0 (W0 w : World) (pb : Nat) (d : DevP) (An : Option Addr) (cn : Nat) (Av : Option Addr) (cv : Nat) (As : Option Addr) (cs : Nat) (Ag : Option Addr) (cg : Nat) (Am : Option Addr) (cm : Nat) (br : List Int) (k : Int) (L : List StampP) (h : PenS W0 w pb d An cn Av cv As cs Ag cg Am cm br k L) (kind row col : Int) (ik : I64 kind) (ir : I64 row) (ic : I64 col) (vb : Nat) (q : Rat) (hq : RatB w vb q) (lq : LimQ q 1099511627776) (hL : L.length ≤ 100000000) :
    Calls Tryz.prog 155 #[.pointer (some ⟨pb, 0, none⟩), .int .i64 kind, .int .i64 row, .int .i64 col, .pointer (some ⟨vb, 0, none⟩)] w fun e w' => e = .returned (.tuple #[]) ∧ Hid (PenS W0 w' pb d An cn Av cv As cs Ag cg Am cm br k (L ++ put1 kind row col q) ∧ Keeps w w') ∧ w'.cell? ⟨pb, 13, none⟩ = w.cell? ⟨pb, 13, none⟩ := by
  by_cases hg : row < 0 ∨ col < 0
  · have hp : put1 kind row col q = [] := by unfold put1; rw [if_pos hg]
    have HP : Hid (PenS W0 w pb d An cn Av cv As cs Ag cg Am cm br k (L ++ put1 kind row col q)) := Lib.hid (by rw [hp, List.append_nil]; exact h)
    clear h hp
    by_cases hr : row < 0
    · go_enter Tryz.func155, Tryz.ntmps155
      go_wp2_with fail
      try simp only [Exit.inBlock, Exit.then]
      refine bodyPost_ret (results_none rfl _ _ _) rfl ?_
      exact ⟨rfl, Lib.hid ⟨HP.out, Keeps.refl _⟩, rfl⟩
    · have hc : col < 0 := by omega
      go_enter Tryz.func155, Tryz.ntmps155
      go_wp2_with fail
      try simp only [Exit.inBlock, Exit.then]
      refine bodyPost_ret (results_none rfl _ _ _) rfl ?_
      exact ⟨rfl, Lib.hid ⟨HP.out, Keeps.refl _⟩, rfl⟩
  · have hr : ¬ row < 0 := by omega
    have hc : ¬ col < 0 := by omega
    have hp : put1 kind row col q = [⟨kind, row, col, q⟩] := by unfold put1; rw [if_neg hg]
    have HP := Lib.hid hp
    have H := Lib.hid h
    obtain ⟨Ab, nb, cb, lv, xs, hbr, hblk, hown, hst, hne⟩ := h.pen
    obtain ⟨A, c, rfl⟩ := hown.form
    have hsb : W0.heap.size ≤ w.heap.size := h.grown.size
    have hplt := hblk.lt
    have c15 : w.cell? ⟨pb, 15, none⟩ = some (.slice A L.length c) := hblk.cell 15
    have f15 := hblk.free 15
    have HBLK := Lib.hid hblk
    have HOWN := Lib.hid hown
    have HST := Lib.hid hst
    have HNE := Lib.hid hne
    have HBR := Lib.hid hbr
    clear hp h hbr hblk hown hst hne hg
    go_enter Tryz.func155, Tryz.ntmps155
    go_wp2_with fail
    have hL88 : (L.length + 1) * 88 ≤ 140737488355328 := by omega
    have henter : ∀ args w, (callFunc 130 args).run Tryz.prog w = .ok (.enter 130 args) w := enters_of Tryz.func130 (by kernel_rfl) rfl
    have hFR : ∀ W, w.grownBy W none → Calls Tryz.prog 130 #[.pointer (some ⟨vb, 0, none⟩)] W fun e w' => ∃ v, e = .returned v ∧ (∃ A1 n1 c1 A2 n2 c2, v = .agg #[.bool (decide (q.num < 0)), .slice A1 n1 c1, .bool false, .slice A2 n2 c2] ∧ StampR w' [.int .i64 kind, .int .i64 row, .int .i64 col, .bool (decide (q.num < 0)), .slice A1 n1 c1, .bool false, .slice A2 n2 c2] ⟨kind, row, col, q⟩ ∧ w.grownBy w' none) := fun W hW => (WFrac_calls W vb q (hq.more hW) lq).mono fun e w' h => by
      obtain ⟨v1, v2, rfl, hn1, hn2, hf1, hf2, hg1⟩ := h
      obtain ⟨A1, n1, c1, rfl⟩ := hn1.ctor
      obtain ⟨A2, n2, c2, rfl⟩ := hn2.ctor
      exact ⟨_, rfl, A1, n1, c1, A2, n2, c2, rfl, ⟨ik, ir, ic, _, _, _, _, _, _, rfl, hn1, hn2⟩, gb_trans hW hg1⟩
    have HFR := Lib.hid hFR
    have HQ := Lib.hid hq
    have HENT := Lib.hid henter
    clear hFR hq henter
    go_region_law (first
      | (refine step_call1 (by rfl) 130 (.tmp 24) _ (by rfl) (.pointer (some ⟨vb, 0, none⟩)) (by rfl) HENT.out _ (HFR.out _ (gb_drew _ _)) ?_; rintro v w1 ⟨A1, n1, c1, A2, n2, c2, rfl, hsr, hgw1⟩; have HSR := Lib.hid hsr; clear hsr; have hsw1 := hgw1.size; have c15 := gb_cell hgw1 c15 (by simp); have c15a : ∀ o, (w1.alloc o).cell? ⟨pb, 15, none⟩ = some (.slice A L.length c) := (fun o => ((HBLK.out.more hgw1).more (gb_alloc _ _ _)).cell 15))
      | (refine step_app_q (by rfl) (.tmp 20) (.tmp 27) 107 (by rfl) W0.heap.size 111 _ 7 88 Tryz.underlying107 stampinfo (by rfl) (by omega) (by omega) (.slice A L.length c) L.length xs (by rfl) (HOWN.out.more (gb_trans hgw1 (gb_alloc _ _ _))) w1.heap.size #[.int .i64 kind, .int .i64 row, .int .i64 col, .bool (decide (q.num < 0)), .slice A1 n1 c1, .bool false, .slice A2 n2 c2] 111 (0, 0) (heap_alloc_new _ _) (by rfl) (by rfl) HSR.out.noD.2 hL88 (by simp only [World.size_alloc]; omega) HSR.out.noD.1 stampzero_noD ?_; intro g cap w3 hown3 hgrow hat; have hblk3 := (HBLK.out.more (gb_trans hgw1 (gb_alloc _ _ _))).row hgrow HNE.out; have c15b := hblk3.cell 15; have f15b := hblk3.free 15; have H3 := Lib.hid (And.intro hblk3 (And.intro hown3 (And.intro hgrow hat))); clear hblk3 hown3 hgrow hat)
      | (fail))
    all_goals
      go_wp2_with fail
      go_end0
      obtain ⟨hblk3, hown3, hgrow, hat⟩ := H3.out
      exact ⟨rfl, Lib.hid (by rw [HP.out]; exact put_end H.out.base H.out.grown H.out.dev HBR.out HOWN.out HST.out HNE.out HBLK.out hgw1 HSR.out hblk3 hown3 hgrow hat), ((hblk3.set 15 _).cell 13).trans (HBLK.out.cell 13).symm⟩
theorem put_calls (W0 w : World) (pb : Nat) (d : DevP) (An : Option Addr) (cn : Nat) (Av : Option Addr) (cv : Nat) (As : Option Addr) (cs : Nat) (Ag : Option Addr) (cg : Nat) (Am : Option Addr) (cm : Nat) (br : List Int) (k : Int) (L : List StampP) (h : PenS W0 w pb d An cn Av cv As cs Ag cg Am cm br k L) (kind row col : Int) (ik : I64 kind) (ir : I64 row) (ic : I64 col) (vb : Nat) (q : Rat) (hq : RatB w vb q) (lq : LimQ q 1099511627776) (hL : L.length ≤ 100000000) :
    Calls Tryz.prog 155 #[.pointer (some ⟨pb, 0, none⟩), .int .i64 kind, .int .i64 row, .int .i64 col, .pointer (some ⟨vb, 0, none⟩)] w fun e w' => e = .returned (.tuple #[]) ∧ Hid (PenS W0 w' pb d An cn Av cv As cs Ag cg Am cm br k (L ++ put1 kind row col q) ∧ Keeps w w') :=
  (put_calls0 W0 w pb d An cn Av cv As cs Ag cg Am cm br k L h kind row col ik ir ic vb q hq lq hL).mono fun _ _ h => ⟨h.1, h.2.1⟩

end Go.Proofs.YtmfmfpmkgmkgiaaGreatDoor

namespace Go.Proofs.YtmfmfpmkgmkgiaaGreatDoor
open Go.RowKit Go.Maps
open Rat

theorem PenS.more {W0 w w' : World} {pb : Nat} {d : DevP} {An Av As Ag Am : Option Addr} {cn cv cs cg cm : Nat} {br : List Int} {k : Int} {L : List StampP} (h : PenS W0 w pb d An cn Av cv As cs Ag cg Am cm br k L) (hg : w.grownBy w' none) : PenS W0 w' pb d An cn Av cv As cs Ag cg Am cm br k L := by
  obtain ⟨Ab, nb, cb, lv, xs, h1, h2, h3, h4, h5⟩ := h.pen
  exact ⟨h.base, gb_trans h.grown hg, h.dev, Ab, nb, cb, lv, xs, h1, h2.more hg, h3.more hg, h4.imp (fun _ _ x => x.more hg), h5⟩
theorem len_put (L : List StampP) (kind r c : Int) (q : Rat) : (L ++ put1 kind r c q).length ≤ L.length + 1 := by
  unfold put1; split <;> simp
def DevP.at (d : DevP) (i : Nat) : Int := d.nodes.getD i 0 - 1
def NodesOK (d : DevP) : Prop := ∀ i, i < d.nodes.length → 0 ≤ d.nodes.getD i 0 ∧ d.nodes.getD i 0 ≤ 1000
theorem NodesOK.at {d : DevP} (h : NodesOK d) (i : Nat) : -1 ≤ d.at i ∧ d.at i ≤ 1000 := by
  unfold DevP.at
  by_cases hi : i < d.nodes.length
  · have := h i hi; omega
  · rw [show d.nodes.getD i 0 = 0 by simp [List.getD, List.getElem?_eq_none (Nat.le_of_not_lt hi)]]; omega
theorem NodesOK.i64 {d : DevP} (h : NodesOK d) (i : Nat) : I64 (d.at i) := by have := h.at i; exact ⟨by omega, by omega⟩

set_option maxRecDepth 100000 in
set_option maxHeartbeats 40000000 in
theorem at_calls (W0 w : World) (pb : Nat) (d : DevP) (An : Option Addr) (cn : Nat) (Av : Option Addr) (cv : Nat) (As : Option Addr) (cs : Nat) (Ag : Option Addr) (cg : Nat) (Am : Option Addr) (cm : Nat) (br : List Int) (k : Int) (L : List StampP) (h : PenS W0 w pb d An cn Av cv As cs Ag cg Am cm br k L) (hn : NodesOK d) (i : Nat) (hi : i < d.nodes.length) (hi8 : i < 8) :
    Calls Tryz.prog 151 #[.pointer (some ⟨pb, 0, none⟩), .int .i64 i] w fun e w' => e = .returned (.int .i64 (d.at i)) ∧ w = w' := by
  obtain ⟨Ab, nb, cb, lv, xs, h1, h2, h3, h4, h5⟩ := h.pen
  have c2 : w.cell? ⟨pb, 2, none⟩ = some (.slice An d.nodes.length cn) := h2.cell 2
  obtain ⟨b, o, rfl, hI, hc⟩ := (h.dev.nodes.more h.grown).at hi
  have hb := hn i hi
  have e1 : (i : Int) < (d.nodes.length : Int) := by omega
  show Calls _ _ _ _ fun e w' => e = .returned (.int .i64 (d.nodes.getD i 0 - 1)) ∧ w = w'
  clear h h1 h2 h3 h4 h5 hn
  generalize d.nodes.getD i 0 = x at *
  generalize d.nodes.length = l at *
  go_enter Tryz.func151, Tryz.ntmps151
  go_wp2_with fail
  go_ret
  exact ⟨rfl, rfl⟩

set_option maxRecDepth 100000 in
set_option maxHeartbeats 40000000 in
theorem own_calls (W0 w : World) (pb : Nat) (d : DevP) (An : Option Addr) (cn : Nat) (Av : Option Addr) (cv : Nat) (As : Option Addr) (cs : Nat) (Ag : Option Addr) (cg : Nat) (Am : Option Addr) (cm : Nat) (br : List Int) (k : Int) (L : List StampP) (h : PenS W0 w pb d An cn Av cv As cs Ag cg Am cm br k L) (hk : 0 ≤ k) (hk2 : k.toNat < br.length) :
    Calls Tryz.prog 156 #[.pointer (some ⟨pb, 0, none⟩)] w fun e w' => e = .returned (.int .i64 (br.getD k.toNat 0)) ∧ w.grownBy w' none := by
  obtain ⟨Ab, nb, cb, lv, xs, h1, h2, h3, h4, h5⟩ := h.pen
  obtain ⟨j, rfl⟩ : ∃ j : Nat, k = j := ⟨k.toNat, by omega⟩
  have c13 : w.cell? ⟨pb, 13, none⟩ = some (.slice Ab nb cb) := h2.cell 13
  have c14 : w.cell? ⟨pb, 14, none⟩ = some (.int .i64 (j : Int)) := h2.cell 14
  simp only [Int.toNat_natCast] at *
  rcases (h1.more h.grown).open with ⟨b, o, c, e, l1, l2, hc⟩ | ⟨_, _, _, _, _, h0⟩
  · injection e with e1 e2 e3
    subst e1 e2 e3
    rw [ints_length] at *
    have hcj := (hc j hk2).trans (ints_get br j hk2)
    have e1 : (j : Int) < (br.length : Int) := by omega
    have e0 : (0 : Int) ≤ (j : Int) := by omega
    clear h h1 h2 h3 h4 h5 hc
    generalize br.getD j 0 = x at *
    generalize br.length = l at *
    go_enter Tryz.func156, Tryz.ntmps156
    go_wp2_with fail
    go_quiet (fail)
    go_wp2_with fail
    go_ret
    exact ⟨rfl, gb_drewN _ _ _⟩
  · have := congrArg List.length h0; rw [ints_length] at this; simp at this; rw [this] at hk2; simp at hk2

set_option maxHeartbeats 40000000 in
theorem one_calls (w : World) : Calls Tryz.prog 157 #[] w fun e w' => ∃ b, e = .returned (.pointer (some ⟨b, 0, none⟩)) ∧ RatB w' b 1 ∧ w.grownBy w' none := by
  go_enter Tryz.func157, Tryz.ntmps157
  go_wp2_with fail
  refine (NewRat_calls w 1 1 (by omega) (by omega) (by omega) (by omega) (by omega)).mono ?_
  rintro e w1 ⟨b, rfl, hr, hb, hg⟩
  go_wp2_with fail
  go_ret
  exact ⟨b, rfl, hr, hg⟩

set_option maxHeartbeats 40000000 in
theorem neg_calls (w : World) (vb : Nat) (q : Rat) (hq : RatB w vb q) (lq : LimQ q 1099511627776) : Calls Tryz.prog 158 #[.pointer (some ⟨vb, 0, none⟩)] w fun e w' => ∃ b, e = .returned (.pointer (some ⟨b, 0, none⟩)) ∧ RatB w' b (-q) ∧ w.grownBy w' none := by
  have ga := gb_alloc w (.cells #[.bool false, .slice none 0 0, .bool false, .slice none 0 0] 178) none
  have hz := RatB.new w 178
  have hN := RNeg_calls _ w.heap.size vb 0 q hz (hq.more ga) lq
  have HN := Lib.hid hN
  clear hN
  go_enter Tryz.func158, Tryz.ntmps158
  go_wp2_with fail
  refine HN.out.mono ?_
  rintro e w1 ⟨rfl, hr, hg⟩
  go_wp2_with fail
  go_ret
  exact ⟨_, rfl, hr, gb_new ga hg (Nat.le_refl _)⟩

set_option maxHeartbeats 40000000 in
theorem a_calls0 (W0 w : World) (pb : Nat) (d : DevP) (An : Option Addr) (cn : Nat) (Av : Option Addr) (cv : Nat) (As : Option Addr) (cs : Nat) (Ag : Option Addr) (cg : Nat) (Am : Option Addr) (cm : Nat) (br : List Int) (k : Int) (L : List StampP) (h : PenS W0 w pb d An cn Av cv As cs Ag cg Am cm br k L) (row col : Int) (ir : I64 row) (ic : I64 col) (vb : Nat) (q : Rat) (hq : RatB w vb q) (lq : LimQ q 1099511627776) (hL : L.length ≤ 100000000) :
    Calls Tryz.prog 160 #[.pointer (some ⟨pb, 0, none⟩), .int .i64 row, .int .i64 col, .pointer (some ⟨vb, 0, none⟩)] w fun e w' => e = .returned (.tuple #[]) ∧ Hid (PenS W0 w' pb d An cn Av cv As cs Ag cg Am cm br k (L ++ put1 1 row col q) ∧ Keeps w w') ∧ w'.cell? ⟨pb, 13, none⟩ = w.cell? ⟨pb, 13, none⟩ := by
  have hP := put_calls0 W0 w pb d An cn Av cv As cs Ag cg Am cm br k L h 1 row col ⟨by omega, by omega⟩ ir ic vb q hq lq hL
  have HP := Lib.hid hP
  clear hP h hq lq
  go_enter Tryz.func160, Tryz.ntmps160
  go_wp2_with fail
  refine HP.out.mono ?_
  rintro e w1 ⟨rfl, hK⟩
  go_wp2_with fail
  go_end0
  exact ⟨rfl, hK⟩
theorem a_calls (W0 w : World) (pb : Nat) (d : DevP) (An : Option Addr) (cn : Nat) (Av : Option Addr) (cv : Nat) (As : Option Addr) (cs : Nat) (Ag : Option Addr) (cg : Nat) (Am : Option Addr) (cm : Nat) (br : List Int) (k : Int) (L : List StampP) (h : PenS W0 w pb d An cn Av cv As cs Ag cg Am cm br k L) (row col : Int) (ir : I64 row) (ic : I64 col) (vb : Nat) (q : Rat) (hq : RatB w vb q) (lq : LimQ q 1099511627776) (hL : L.length ≤ 100000000) :
    Calls Tryz.prog 160 #[.pointer (some ⟨pb, 0, none⟩), .int .i64 row, .int .i64 col, .pointer (some ⟨vb, 0, none⟩)] w fun e w' => e = .returned (.tuple #[]) ∧ Hid (PenS W0 w' pb d An cn Av cv As cs Ag cg Am cm br k (L ++ put1 1 row col q) ∧ Keeps w w') :=
  (a_calls0 W0 w pb d An cn Av cv As cs Ag cg Am cm br k L h row col ir ic vb q hq lq hL).mono fun _ _ h => ⟨h.1, h.2.1⟩

end Go.Proofs.YtmfmfpmkgmkgiaaGreatDoor

namespace Go.Proofs.YtmfmfpmkgmkgiaaGreatDoor
open Go.RowKit Go.Maps
open Rat

theorem Keeps.pen {w w' : World} (h : Keeps w w') {b : Nat} {q : Rat} (hq : RatB w b q) : RatB w' b q := h.1 b q hq
theorem Keeps.four {w w' : World} (h : Keeps w w') {b : Nat} {u0 u1 u2 u3 : Value} (hq : Blk w b #[u0, u1, u2, u3]) : Blk w' b #[u0, u1, u2, u3] := h.2.1 b _ rfl hq
theorem Keeps.nums {w w' : World} (h : Keeps w w') {v : Value} {xs : List Nat} (hq : Nums w v xs) : Nums w' v xs := h.2.2 v xs hq
theorem limQ_one : LimQ 1 1099511627776 := ⟨by decide, by decide⟩
def conductL (a0 a1 c dd : Int) (q : Rat) : List StampP := put1 1 a0 c q ++ (put1 1 a0 dd (-q) ++ (put1 1 a1 c (-q) ++ put1 1 a1 dd q))

set_option maxRecDepth 100000 in
set_option maxHeartbeats 40000000 in
theorem conduct_calls (W0 w : World) (pb : Nat) (d : DevP) (An : Option Addr) (cn : Nat) (Av : Option Addr) (cv : Nat) (As : Option Addr) (cs : Nat) (Ag : Option Addr) (cg : Nat) (Am : Option Addr) (cm : Nat) (br : List Int) (k : Int) (L : List StampP) (h : PenS W0 w pb d An cn Av cv As cs Ag cg Am cm br k L) (hn : NodesOK d) (h2 : 2 ≤ d.nodes.length) (c dd : Int) (ic : I64 c) (id' : I64 dd) (yb : Nat) (q : Rat) (hq : RatB w yb q) (lq : LimQ q 1099511627776) (hL : L.length ≤ 1000000) :
    Calls Tryz.prog 150 #[.pointer (some ⟨pb, 0, none⟩), .int .i64 c, .int .i64 dd, .pointer (some ⟨yb, 0, none⟩)] w fun e w' => e = .returned (.tuple #[]) ∧ Hid (PenS W0 w' pb d An cn Av cv As cs Ag cg Am cm br k (L ++ conductL (d.at 0) (d.at 1) c dd q) ∧ Keeps w w') := by
  have HP := Lib.hid h
  have HN := Lib.hid hn
  have HY := Lib.hid hq
  have HLQ := Lib.hid lq
  have HLN := Lib.hid lq.neg
  have HK := Lib.hid (Keeps.refl w)
  have HI := Lib.hid (fun i => hn.i64 i)
  have l1 := len_put L 1 (d.at 0) c q
  have l2 := len_put (L ++ put1 1 (d.at 0) c q) 1 (d.at 0) dd (-q)
  have l3 := len_put (L ++ put1 1 (d.at 0) c q ++ put1 1 (d.at 0) dd (-q)) 1 (d.at 1) c (-q)
  have hfin : L ++ put1 1 (d.at 0) c q ++ put1 1 (d.at 0) dd (-q) ++ put1 1 (d.at 1) c (-q) ++ put1 1 (d.at 1) dd q = L ++ conductL (d.at 0) (d.at 1) c dd q := by unfold conductL; simp only [List.append_assoc]
  have HFIN := Lib.hid hfin
  clear h hn hq lq hfin
  go_enter Tryz.func150, Tryz.ntmps150
  go_wp2_with fail
  refine (at_calls W0 w pb d An cn Av cv As cs Ag cg Am cm br k _ HP.out HN.out 0 (by omega) (by omega)).mono ?_
  rintro e w' ⟨rfl, rfl⟩
  go_wp2_with fail
  refine (a_calls W0 w pb d An cn Av cv As cs Ag cg Am cm br k _ HP.out (d.at 0) c (HI.out 0) ic yb q HY.out HLQ.out (by omega)).mono ?_
  rintro e w1 ⟨rfl, h1⟩
  have HP := Lib.hid h1.out.1
  have HY := Lib.hid (h1.out.2.pen HY.out)
  have HK := Lib.hid (HK.out.trans h1.out.2)
  clear h1
  go_wp2_with fail
  refine (at_calls W0 w1 pb d An cn Av cv As cs Ag cg Am cm br k _ HP.out HN.out 0 (by omega) (by omega)).mono ?_
  rintro e w' ⟨rfl, rfl⟩
  go_wp2_with fail
  refine (neg_calls w1 yb q HY.out HLQ.out).mono ?_
  rintro e w2 ⟨nb', rfl, hnb, hgn⟩
  have HP := Lib.hid (HP.out.more hgn)
  have HY := Lib.hid (HY.out.more hgn)
  have HK := Lib.hid (HK.out.trans (Keeps.more hgn))
  have HNB := Lib.hid hnb
  clear hnb
  go_wp2_with fail
  refine (a_calls W0 w2 pb d An cn Av cv As cs Ag cg Am cm br k _ HP.out (d.at 0) dd (HI.out 0) id' nb' (-q) HNB.out HLN.out (by omega)).mono ?_
  rintro e w3 ⟨rfl, h1⟩
  have HP := Lib.hid h1.out.1
  have HY := Lib.hid (h1.out.2.pen HY.out)
  have HK := Lib.hid (HK.out.trans h1.out.2)
  clear h1 HNB
  go_wp2_with fail
  refine (at_calls W0 w3 pb d An cn Av cv As cs Ag cg Am cm br k _ HP.out HN.out 1 (by omega) (by omega)).mono ?_
  rintro e w' ⟨rfl, rfl⟩
  go_wp2_with fail
  refine (neg_calls w3 yb q HY.out HLQ.out).mono ?_
  rintro e w4 ⟨nb', rfl, hnb, hgn⟩
  have HP := Lib.hid (HP.out.more hgn)
  have HY := Lib.hid (HY.out.more hgn)
  have HK := Lib.hid (HK.out.trans (Keeps.more hgn))
  have HNB := Lib.hid hnb
  clear hnb
  go_wp2_with fail
  refine (a_calls W0 w4 pb d An cn Av cv As cs Ag cg Am cm br k _ HP.out (d.at 1) c (HI.out 1) ic nb' (-q) HNB.out HLN.out (by omega)).mono ?_
  rintro e w5 ⟨rfl, h1⟩
  have HP := Lib.hid h1.out.1
  have HY := Lib.hid (h1.out.2.pen HY.out)
  have HK := Lib.hid (HK.out.trans h1.out.2)
  clear h1 HNB
  go_wp2_with fail
  refine (at_calls W0 w5 pb d An cn Av cv As cs Ag cg Am cm br k _ HP.out HN.out 1 (by omega) (by omega)).mono ?_
  rintro e w' ⟨rfl, rfl⟩
  go_wp2_with fail
  refine (a_calls W0 w5 pb d An cn Av cv As cs Ag cg Am cm br k _ HP.out (d.at 1) dd (HI.out 1) id' yb q HY.out HLQ.out (by omega)).mono ?_
  rintro e w6 ⟨rfl, h1⟩
  go_wp2_with fail
  go_end0
  exact ⟨rfl, Lib.hid ⟨by rw [← HFIN.out]; exact h1.out.1, HK.out.trans h1.out.2⟩⟩

theorem limQ_neg1 : LimQ (-1) 1099511627776 := limQ_one.neg
def outL (a0 a1 j : Int) : List StampP := put1 1 a0 j 1 ++ put1 1 a1 j (-1)
def acrossL (a0 a1 j : Int) : List StampP := put1 1 j a0 1 ++ put1 1 j a1 (-1)

set_option maxRecDepth 100000 in
set_option maxHeartbeats 40000000 in
theorem out_calls (W0 w : World) (pb : Nat) (d : DevP) (An : Option Addr) (cn : Nat) (Av : Option Addr) (cv : Nat) (As : Option Addr) (cs : Nat) (Ag : Option Addr) (cg : Nat) (Am : Option Addr) (cm : Nat) (br : List Int) (k : Int) (L : List StampP) (h : PenS W0 w pb d An cn Av cv As cs Ag cg Am cm br k L) (hn : NodesOK d) (h2 : 2 ≤ d.nodes.length) (hk0 : 0 ≤ k) (hk1 : k.toNat < br.length) (ij : I64 (br.getD k.toNat 0)) (hL : L.length ≤ 1000000) :
    Calls Tryz.prog 153 #[.pointer (some ⟨pb, 0, none⟩)] w fun e w' => e = .returned (.tuple #[]) ∧ Hid (PenS W0 w' pb d An cn Av cv As cs Ag cg Am cm br k (L ++ outL (d.at 0) (d.at 1) (br.getD k.toNat 0)) ∧ Keeps w w') := by
  have HP := Lib.hid h
  have HN := Lib.hid hn
  have HK := Lib.hid (Keeps.refl w)
  have HI := Lib.hid (fun i => hn.i64 i)
  have HJ := Lib.hid ij
  have l1 := len_put L 1 (d.at 0) (br.getD k.toNat 0) 1
  have hfin : L ++ put1 1 (d.at 0) (br.getD k.toNat 0) 1 ++ put1 1 (d.at 1) (br.getD k.toNat 0) (-1) = L ++ outL (d.at 0) (d.at 1) (br.getD k.toNat 0) := by unfold outL; simp only [List.append_assoc]
  have HFIN := Lib.hid hfin
  have hown := fun w' L' (h' : PenS W0 w' pb d An cn Av cv As cs Ag cg Am cm br k L') => own_calls W0 w' pb d An cn Av cv As cs Ag cg Am cm br k L' h' hk0 hk1
  have HOWN := Lib.hid hown
  clear h hn hfin ij hown
  generalize br.getD k.toNat 0 = J at *
  go_enter Tryz.func153, Tryz.ntmps153
  go_wp2_with fail
  refine (at_calls W0 w pb d An cn Av cv As cs Ag cg Am cm br k _ HP.out HN.out 0 (by omega) (by omega)).mono ?_
  rintro e w' ⟨rfl, rfl⟩
  go_wp2_with fail
  refine (HOWN.out w _ HP.out).mono ?_
  rintro e w1 ⟨rfl, hgn⟩
  have HP := Lib.hid (HP.out.more hgn)
  have HK := Lib.hid (HK.out.trans (Keeps.more hgn))
  clear hgn
  go_wp2_with fail
  refine (one_calls w1).mono ?_
  rintro e w2 ⟨ob, rfl, hob, hgn⟩
  have HP := Lib.hid (HP.out.more hgn)
  have HK := Lib.hid (HK.out.trans (Keeps.more hgn))
  have HOB := Lib.hid hob
  clear hob hgn
  go_wp2_with fail
  refine (a_calls W0 w2 pb d An cn Av cv As cs Ag cg Am cm br k _ HP.out (d.at 0) J (HI.out 0) HJ.out ob 1 HOB.out limQ_one (by omega)).mono ?_
  rintro e w3 ⟨rfl, h1⟩
  have HP := Lib.hid h1.out.1
  have HK := Lib.hid (HK.out.trans h1.out.2)
  clear h1
  go_wp2_with fail
  clear HOB
  refine (at_calls W0 w3 pb d An cn Av cv As cs Ag cg Am cm br k _ HP.out HN.out 1 (by omega) (by omega)).mono ?_
  rintro e w' ⟨rfl, rfl⟩
  go_wp2_with fail
  refine (HOWN.out w3 _ HP.out).mono ?_
  rintro e w4 ⟨rfl, hgn⟩
  have HP := Lib.hid (HP.out.more hgn)
  have HK := Lib.hid (HK.out.trans (Keeps.more hgn))
  clear hgn
  go_wp2_with fail
  refine (one_calls w4).mono ?_
  rintro e w5 ⟨ob, rfl, hob, hgn⟩
  have HP := Lib.hid (HP.out.more hgn)
  have HK := Lib.hid (HK.out.trans (Keeps.more hgn))
  have HOB := Lib.hid hob
  clear hob hgn
  go_wp2_with fail
  refine (neg_calls w5 ob 1 HOB.out limQ_one).mono ?_
  rintro e w6 ⟨nb', rfl, hnb, hgn⟩
  have HP := Lib.hid (HP.out.more hgn)
  have HK := Lib.hid (HK.out.trans (Keeps.more hgn))
  have HNB := Lib.hid hnb
  clear hnb hgn
  go_wp2_with fail
  refine (a_calls W0 w6 pb d An cn Av cv As cs Ag cg Am cm br k _ HP.out (d.at 1) J (HI.out 1) HJ.out nb' (-1) HNB.out limQ_neg1 (by omega)).mono ?_
  rintro e w7 ⟨rfl, h1⟩
  go_wp2_with fail
  go_end0
  exact ⟨rfl, Lib.hid ⟨by rw [← HFIN.out]; exact h1.out.1, HK.out.trans h1.out.2⟩⟩

set_option maxRecDepth 100000 in
set_option maxHeartbeats 40000000 in
theorem across_calls (W0 w : World) (pb : Nat) (d : DevP) (An : Option Addr) (cn : Nat) (Av : Option Addr) (cv : Nat) (As : Option Addr) (cs : Nat) (Ag : Option Addr) (cg : Nat) (Am : Option Addr) (cm : Nat) (br : List Int) (k : Int) (L : List StampP) (h : PenS W0 w pb d An cn Av cv As cs Ag cg Am cm br k L) (hn : NodesOK d) (h2 : 2 ≤ d.nodes.length) (hk0 : 0 ≤ k) (hk1 : k.toNat < br.length) (ij : I64 (br.getD k.toNat 0)) (hL : L.length ≤ 1000000) :
    Calls Tryz.prog 154 #[.pointer (some ⟨pb, 0, none⟩)] w fun e w' => e = .returned (.tuple #[]) ∧ Hid (PenS W0 w' pb d An cn Av cv As cs Ag cg Am cm br k (L ++ acrossL (d.at 0) (d.at 1) (br.getD k.toNat 0)) ∧ Keeps w w') := by
  have HP := Lib.hid h
  have HN := Lib.hid hn
  have HK := Lib.hid (Keeps.refl w)
  have HI := Lib.hid (fun i => hn.i64 i)
  have HJ := Lib.hid ij
  have l1 := len_put L 1 (br.getD k.toNat 0) (d.at 0) 1
  have hfin : L ++ put1 1 (br.getD k.toNat 0) (d.at 0) 1 ++ put1 1 (br.getD k.toNat 0) (d.at 1) (-1) = L ++ acrossL (d.at 0) (d.at 1) (br.getD k.toNat 0) := by unfold acrossL; simp only [List.append_assoc]
  have HFIN := Lib.hid hfin
  have hown := fun w' L' (h' : PenS W0 w' pb d An cn Av cv As cs Ag cg Am cm br k L') => own_calls W0 w' pb d An cn Av cv As cs Ag cg Am cm br k L' h' hk0 hk1
  have HOWN := Lib.hid hown
  clear h hn hfin ij hown
  generalize br.getD k.toNat 0 = J at *
  go_enter Tryz.func154, Tryz.ntmps154
  go_wp2_with fail
  refine (HOWN.out w _ HP.out).mono ?_
  rintro e w1 ⟨rfl, hgn⟩
  have HP := Lib.hid (HP.out.more hgn)
  have HK := Lib.hid (HK.out.trans (Keeps.more hgn))
  clear hgn
  go_wp2_with fail
  refine (at_calls W0 w1 pb d An cn Av cv As cs Ag cg Am cm br k _ HP.out HN.out 0 (by omega) (by omega)).mono ?_
  rintro e w' ⟨rfl, rfl⟩
  go_wp2_with fail
  refine (one_calls w1).mono ?_
  rintro e w2 ⟨ob, rfl, hob, hgn⟩
  have HP := Lib.hid (HP.out.more hgn)
  have HK := Lib.hid (HK.out.trans (Keeps.more hgn))
  have HOB := Lib.hid hob
  clear hob hgn
  go_wp2_with fail
  refine (a_calls W0 w2 pb d An cn Av cv As cs Ag cg Am cm br k _ HP.out J (d.at 0) HJ.out (HI.out 0) ob 1 HOB.out limQ_one (by omega)).mono ?_
  rintro e w3 ⟨rfl, h1⟩
  have HP := Lib.hid h1.out.1
  have HK := Lib.hid (HK.out.trans h1.out.2)
  clear h1
  go_wp2_with fail
  clear HOB
  refine (HOWN.out w3 _ HP.out).mono ?_
  rintro e w4 ⟨rfl, hgn⟩
  have HP := Lib.hid (HP.out.more hgn)
  have HK := Lib.hid (HK.out.trans (Keeps.more hgn))
  clear hgn
  go_wp2_with fail
  refine (at_calls W0 w4 pb d An cn Av cv As cs Ag cg Am cm br k _ HP.out HN.out 1 (by omega) (by omega)).mono ?_
  rintro e w' ⟨rfl, rfl⟩
  go_wp2_with fail
  refine (one_calls w4).mono ?_
  rintro e w5 ⟨ob, rfl, hob, hgn⟩
  have HP := Lib.hid (HP.out.more hgn)
  have HK := Lib.hid (HK.out.trans (Keeps.more hgn))
  have HOB := Lib.hid hob
  clear hob hgn
  go_wp2_with fail
  refine (neg_calls w5 ob 1 HOB.out limQ_one).mono ?_
  rintro e w6 ⟨nb', rfl, hnb, hgn⟩
  have HP := Lib.hid (HP.out.more hgn)
  have HK := Lib.hid (HK.out.trans (Keeps.more hgn))
  have HNB := Lib.hid hnb
  clear hnb hgn
  go_wp2_with fail
  refine (a_calls W0 w6 pb d An cn Av cv As cs Ag cg Am cm br k _ HP.out J (d.at 1) HJ.out (HI.out 1) nb' (-1) HNB.out limQ_neg1 (by omega)).mono ?_
  rintro e w7 ⟨rfl, h1⟩
  go_wp2_with fail
  go_end0
  exact ⟨rfl, Lib.hid ⟨by rw [← HFIN.out]; exact h1.out.1, HK.out.trans h1.out.2⟩⟩

end Go.Proofs.YtmfmfpmkgmkgiaaGreatDoor
