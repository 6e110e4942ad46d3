/- Contracts of the program's functions, and what they rest on: StM SegA SegB. -/
import Derived.Test.YtmfmfpmkgmkgiaaGreatDoorMay
import Derived.Test.YtmfmfpmkgmkgiaaGreatDoorMai
set_option linter.unusedVariables false
set_option linter.unusedSimpArgs false
namespace Go.Proofs.YtmfmfpmkgmkgiaaGreatDoor
open Go.RowKit Go.Maps
open Rat

structure DevOK (f : FlatP) (d : DevP) : Prop where
  nodes : NodesOK d
  num : (d.nodes.length : Int) = nodesN d.kind
  kind : nodesN d.kind ≠ 0
  low : ∀ i, d.at i < unk f
  val : NumOK d.val.1 d.val.2
  val0 : d.kind = 114 ∨ d.kind = 99 ∨ d.kind = 108 → d.val.1 ≠ 0
  ref : d.kind = 102 ∨ d.kind = 104 → 0 ≤ d.ref ∧ d.ref.toNat < f.devs.length ∧ (f.devs.getD d.ref.toNat dev0).kind = 118
  model : isBent d.kind = true → modelOK d.mname.data.toList d.mkind d.mg d.mv = true ∧ d.mkind = d.kind
  plain : isBent d.kind = false → d.mg = [] ∧ d.mv = []
theorem getD_none {l : List Int} {i : Nat} (h : ¬ i < l.length) : l.getD i 0 = 0 := by simp [List.getD, List.getElem?_eq_none (Nat.le_of_not_lt h)]
theorem limQ_0 {K : Nat} (h : 1 ≤ K) : LimQ 0 K := LimQ.mono (show LimQ 0 1 from ⟨by decide, by decide⟩) h
theorem numOK_0 : NumOK 0 0 := .inl ⟨rfl, rfl⟩
theorem valZ_ok {p : Int × Int} (h : valZ p = true) : NumOK p.1 p.2 := by
  unfold valZ at h
  simp only [Bool.and_eq_true, decide_eq_true_eq] at h
  rw [h.1, h.2]; exact numOK_0
theorem noModel_nil {nm : ByteArray} {kind : Int} {g v : List (Int × Int)} (h : noModelB nm kind g.length v.length = true) : g = [] ∧ v = [] := by
  unfold noModelB at h
  simp only [Bool.and_eq_true, decide_eq_true_eq] at h
  exact ⟨List.length_eq_zero_iff.1 (by omega), List.length_eq_zero_iff.1 (by omega)⟩
theorem dev_ok {f : FlatP} {k : Nat} (h0 : flatE f = 0) (hk : k < f.devs.length) : DevOK f (f.devs.getD k dev0) := by
  obtain ⟨n1, _, _, n2, hd⟩ := flat_ok h0
  have hb := hd k hk
  obtain ⟨a1, a2, a3, a4⟩ := dev_nodes hb n1
  have hlow : ∀ i, (f.devs.getD k dev0).at i < unk f := by
    intro i
    unfold unk DevP.at
    unfold devB at hb
    simp only [Bool.and_eq_true, nodesB, decide_eq_true_eq] at hb
    by_cases hi : i < (f.devs.getD k dev0).nodes.length
    · have := hb.1.2 i hi; omega
    · rw [getD_none hi]; omega
  generalize f.devs.getD k dev0 = d at *
  unfold kindB at a4
  split at a4
  · rename_i hkd
    simp only [Bool.and_eq_true] at a4
    have hbn : isBent d.kind = false := by unfold isBent; rcases hkd with h | h <;> rw [h] <;> rfl
    exact ⟨a1, a2, a3, hlow, valZ_ok a4.1.1.2, fun h => by omega, fun h => by omega, fun h => absurd h (by rw [hbn]; simp), fun _ => noModel_nil a4.1.2⟩
  · split at a4
    · rename_i hkd
      simp only [Bool.and_eq_true, decide_eq_true_eq] at a4
      have hbn : isBent d.kind = true := by unfold isBent; rcases hkd with h | h <;> rw [h] <;> rfl
      exact ⟨a1, a2, a3, hlow, valZ_ok a4.1.1.1.2, fun h => by omega, fun h => by omega, fun _ => ⟨a4.1.1.2, a4.1.2⟩, fun h => absurd h (by rw [hbn]; simp)⟩
    · rename_i hk1 hk2
      simp only [Bool.and_eq_true] at a4
      obtain ⟨⟨⟨⟨b1, b2⟩, b3⟩, b4⟩, b5⟩ := a4
      have hbn : isBent d.kind = false := by unfold isBent; simp only [Bool.or_eq_false_iff, decide_eq_false_iff_not]; omega
      refine ⟨a1, a2, a3, hlow, of_decide_eq_true b2, fun h => ?_, fun h => ?_, fun h => absurd h (by rw [hbn]; simp), fun _ => noModel_nil b5⟩
      · simp only [Bool.or_eq_true, decide_eq_true_eq, Bool.not_eq_true', Bool.or_eq_false_iff, decide_eq_false_iff_not] at b3
        omega
      · rw [if_pos h] at b1
        simp only [Bool.and_eq_true, decide_eq_true_eq] at b1
        exact ⟨b1.1.1, by omega, b1.2⟩
theorem nbr_mono (ds : List DevP) (t : Nat) : ∀ e, t + e ≤ ds.length → nbr ds t ≤ nbr ds (t + e)
  | 0, _ => Nat.le_refl _
  | e + 1, h => by
    have h1 := nbr_mono ds t e (by omega)
    have h2 := nbr_succ (ds := ds) (t := t + e) (by omega)
    rw [← Nat.add_assoc, h2]; omega
theorem br_low {f : FlatP} {k : Nat} (h1 : 1 ≤ f.nodes.length) (hk : k < f.devs.length) (hb : isBr (f.devs.getD k dev0).kind = true) : 0 ≤ (brs f.devs ((f.nodes.length : Int) - 1) f.devs.length).getD k 0 ∧ (brs f.devs ((f.nodes.length : Int) - 1) f.devs.length).getD k 0 < unk f := by
  rw [brs_getD hk]
  unfold brAt unk
  rw [if_pos hb]
  have h2 := nbr_succ (ds := f.devs) (t := k) hk
  rw [hb] at h2
  have h3 := nbr_mono f.devs (k + 1) (f.devs.length - (k + 1)) (by omega)
  rw [show k + 1 + (f.devs.length - (k + 1)) = f.devs.length by omega, h2] at h3
  simp only [if_true] at h3
  omega
theorem all_getD {l : List (Int × Int)} (h : l.all numOK = true) (k : Nat) : NumOK (l.getD k (0, 0)).1 (l.getD k (0, 0)).2 := by
  by_cases hk : k < l.length
  · rw [List.all_eq_true] at h
    have := h l[k] (List.getElem_mem _)
    rw [show l.getD k (0, 0) = l[k] by simp [List.getD, List.getElem?_eq_getElem hk]]
    exact of_decide_eq_true this
  · rw [show l.getD k (0, 0) = (0, 0) by simp [List.getD, List.getElem?_eq_none (Nat.le_of_not_lt hk)]]; exact numOK_0
theorem isBent_iff {k : Int} : isBent k = true ↔ k = 100 ∨ k = 115 := by simp [isBent]
theorem part_lim {f : FlatP} {d : DevP} (h : DevOK f d) {seg : Nat} (hs : isBent d.kind = true → seg < d.mg.length) (hs0 : isBent d.kind = false → seg = 0) : LimQ (pQ (d.mg.getD seg (0, 0))) 128 ∧ LimQ (partV d.mkind d.mg d.mv seg) 128 := by
  cases hb : isBent d.kind with
  | false =>
    obtain ⟨e1, e2⟩ := h.plain hb
    rw [hs0 hb, e1, e2]
    refine ⟨(limQ_num numOK_0).mono (by omega), ?_⟩
    unfold partV; split <;> exact limQ_0 (by omega)
  | true =>
    obtain ⟨m1, m2⟩ := h.model hb
    obtain ⟨_, g1, g2, g3⟩ := modelOK_all m1
    have hsl := hs hb
    refine ⟨(limQ_num (all_getD g1 seg)).mono (by omega), ?_⟩
    unfold partV
    split
    · refine (limQ_partC (fun k _ => all_getD g1 k) (fun k _ => all_getD g2 k) seg hsl (by omega) (by omega)).mono ?_
      have : (2 : Nat) ^ seg ≤ 2 ^ 3 := Nat.pow_le_pow_right (by omega) (by omega)
      omega
    · exact limQ_0 (by omega)
theorem setB_step {mode method : Int} {step : Int × Int} (h : setB mode method step = true) (hm : mode ≠ 1) : NumOK step.1 step.2 ∧ step.1 ≠ 0 ∧ mode = 2 ∧ (method = 1 ∨ method = 2) := by
  unfold setB at h
  simp only [Bool.or_eq_true, Bool.and_eq_true, decide_eq_true_eq] at h
  rcases h with h | ⟨⟨⟨h1, h2⟩, h3⟩, h4⟩
  · exact absurd h hm
  · exact ⟨of_decide_eq_true h3, by omega, h1, h2⟩
theorem stampsF_g {f : FlatP} {k : Nat} {mode method : Int} {step : Int × Int} {seg : Nat} (h0 : flatE f = 0) (hk : k < f.devs.length) (hst : setB mode method step = true)
    (hs : isBent (f.devs.getD k dev0).kind = true → seg < (f.devs.getD k dev0).mg.length) (hs0 : isBent (f.devs.getD k dev0).kind = false → seg = 0) :
    StG (unk f) 128 (stampsD (f.devs.getD k dev0) (brs f.devs ((f.nodes.length : Int) - 1) f.devs.length) k mode method step seg) := by
  have h := dev_ok h0 hk
  obtain ⟨n1, n3, _, n2, _⟩ := flat_ok h0
  obtain ⟨p1, p2⟩ := part_lim h hs hs0
  refine stampsD_g h.low (fun hb => ?_) (fun hb => ?_) (by omega) h.val (fun e => h.val0 (.inl e)) (fun hm => ?_) p1 p2
  · rw [Int.toNat_natCast]; exact (br_low n2 hk hb).2
  · obtain ⟨r1, r2, r3⟩ := h.ref hb
    exact (br_low n2 r2 (by rw [r3]; rfl)).2
  · obtain ⟨s1, s2, _⟩ := setB_step hst hm; exact ⟨s1, s2⟩

end Go.Proofs.YtmfmfpmkgmkgiaaGreatDoor

namespace Go.Proofs.YtmfmfpmkgmkgiaaGreatDoor
open Go.RowKit Go.Maps
open Rat

theorem Row.ints_at {w : World} {A : Option Addr} {n c : Nat} {l : List Int} (h : Row w (.slice A n c) (ints l)) {i : Nat} (hi : i < l.length) : ∃ b o, A = some ⟨b, o, none⟩ ∧ w.cell? ⟨b, o + i, none⟩ = some (.int .i64 (l.getD i 0)) := by
  rcases h.open with ⟨b, o, c', e, l1, l2, hc⟩ | ⟨_, _, _, _, _, h0⟩
  · injection e with e1 e2 e3
    rw [ints_length] at *
    exact ⟨b, o, e1, (hc i hi).trans (ints_get l i hi)⟩
  · have := congrArg List.length h0; rw [ints_length] at this; exact absurd (show l.length = 0 from this) (by omega)
theorem bents_prefix (ds : List DevP) (t : Nat) : ∀ e, ∃ r, bents ds (t + e) = bents ds t ++ r
  | 0 => ⟨[], by simp⟩
  | e + 1 => by
    obtain ⟨r, hr⟩ := bents_prefix ds t e
    rw [← Nat.add_assoc, bents_succ, hr, List.append_assoc]
    exact ⟨_, rfl⟩
theorem bents_at {ds : List DevP} {k D : Nat} (hk : k < D) (hb : isBent (ds.getD k dev0).kind = true) : (bents ds k).length < (bents ds D).length ∧ (bents ds D).getD (bents ds k).length 0 = (k : Int) := by
  obtain ⟨r, hr⟩ := bents_prefix ds (k + 1) (D - (k + 1))
  rw [show k + 1 + (D - (k + 1)) = D by omega, bents_succ, if_pos hb] at hr
  rw [hr]
  constructor
  · simp
  · simp [List.getD]
theorem mem_bents {ds : List DevP} {D : Nat} {x : Int} (h : x ∈ bents ds D) : ∃ k : Nat, x = (k : Int) ∧ k < D ∧ isBent (ds.getD k dev0).kind = true := by
  unfold bents at h
  obtain ⟨k, hk, rfl⟩ := List.mem_map.1 h
  obtain ⟨h1, h2⟩ := List.mem_filter.1 hk
  exact ⟨k, rfl, List.mem_range.1 h1, h2⟩
def bentL (f : FlatP) : List Int := bents f.devs f.devs.length
def segN (f : FlatP) (i : Nat) : Int := ((f.devs.getD ((bentL f).getD i 0).toNat dev0).mg.length : Int)
def segOK (f : FlatP) (segs : List Int) (i : Nat) : Prop := 0 ≤ segs.getD i 0 ∧ segs.getD i 0 < segN f i
instance (f : FlatP) (segs : List Int) (i : Nat) : Decidable (segOK f segs i) := by unfold segOK; infer_instance
def segsB (f : FlatP) (segs : List Int) : Bool := decide (segs.length = (bentL f).length) && decide (∀ i, i < (bentL f).length → segOK f segs i)
def segI (f : FlatP) (segs : List Int) (k : Nat) : Int := if isBent (f.devs.getD k dev0).kind then segs.getD (bents f.devs k).length 0 else 0
theorem segs_at {f : FlatP} {segs : List Int} {k : Nat} (h : segsB f segs = true) (hk : k < f.devs.length) (hb : isBent (f.devs.getD k dev0).kind = true) : (bents f.devs k).length < segs.length ∧ 0 ≤ segI f segs k ∧ segI f segs k < ((f.devs.getD k dev0).mg.length : Int) := by
  unfold segsB at h
  simp only [Bool.and_eq_true, decide_eq_true_eq] at h
  obtain ⟨h1, h2⟩ := h
  obtain ⟨e1, e2⟩ := bents_at hk hb
  have h3 := h2 _ e1
  unfold segOK segN bentL at h3
  rw [e2, Int.toNat_natCast] at h3
  unfold segI
  rw [if_pos hb]
  unfold bentL at h1
  exact ⟨by omega, h3⟩
theorem segI_plain {f : FlatP} {segs : List Int} {k : Nat} (hb : isBent (f.devs.getD k dev0).kind = false) : segI f segs k = 0 := by unfold segI; rw [hb]; rfl
def stampsF (f : FlatP) (mode method : Int) (step : Int × Int) (segs : List Int) (k : Nat) : List StampP :=
  stampsD (f.devs.getD k dev0) (brs f.devs ((f.nodes.length : Int) - 1) f.devs.length) k mode method step (segI f segs k).toNat
theorem stampsF_ok {f : FlatP} {mode method : Int} {step : Int × Int} {segs : List Int} {k : Nat} (h0 : flatE f = 0) (hk : k < f.devs.length) (hst : setB mode method step = true) (hs : segsB f segs = true) : StG (unk f) 128 (stampsF f mode method step segs k) := by
  refine stampsF_g h0 hk hst (fun hb => ?_) fun hb => by rw [segI_plain hb]; rfl
  have := (segs_at hs hk hb).2; omega

end Go.Proofs.YtmfmfpmkgmkgiaaGreatDoor

namespace Go.Proofs.YtmfmfpmkgmkgiaaGreatDoor
open Go.RowKit Go.Maps
open Rat

theorem Row.intsForm {w : World} {v : Value} {l : List Int} (h : Row w v (ints l)) : ∃ A c, v = .slice A l.length c ∧ Row w (.slice A l.length c) (ints l) := by
  obtain ⟨A, c, rfl, h2⟩ := id h
  rw [ints_length] at h ⊢
  exact ⟨A, c, rfl, h⟩
theorem segsB_no {f : FlatP} {segs : List Int} {k : Nat} (hk : k < (bentL f).length) (h : ¬ segOK f segs k) : segsB f segs = false := by
  unfold segsB
  rw [Bool.and_eq_false_iff]
  exact .inr (decide_eq_false fun hh => h (hh k hk))
theorem segsB_len {f : FlatP} {segs : List Int} (h : segs.length ≠ (bentL f).length) : segsB f segs = false := by
  unfold segsB; rw [decide_eq_false h]; rfl
theorem segsB_ok {f : FlatP} {segs : List Int} (h : segs.length = (bentL f).length) (h2 : ∀ t, t < (bentL f).length → segOK f segs t) : segsB f segs = true := by
  unfold segsB; rw [decide_eq_true h, decide_eq_true h2]; rfl

set_option maxRecDepth 100000 in
set_option maxHeartbeats 40000000 in
theorem segsRight_calls (w : World) (f : FlatP) (A1 : Option Addr) (c1 : Nat) (A2 : Option Addr) (c2 : Nat) (hf : FlatAt w f A1 c1 A2 c2) (h0 : flatE f = 0) (Ab : Option Addr) (cb : Nat) (hb : Row w (.slice Ab (bentL f).length cb) (ints (bentL f))) (As : Option Addr) (cs : Nat) (segs : List Int) (hs : IntRow w (.slice As segs.length cs) segs) :
    Calls Tryz.prog 42 #[.agg #[.slice A1 f.nodes.length c1, .slice A2 f.devs.length c2, .int .i64 f.step.1, .int .i64 f.step.2, .int .i64 f.method], .slice Ab (bentL f).length cb, .slice As segs.length cs] w fun e w' => e = .returned (.bool (segsB f segs)) ∧ w.grownBy w' none := by
  have gw := gb_alloc w (.cells #[.slice A1 f.nodes.length c1, .slice A2 f.devs.length c2, .int .i64 f.step.1, .int .i64 f.step.2, .int .i64 f.method] 27) none
  have HFB := FlatBox.of (Blk.new w #[.slice A1 f.nodes.length c1, .slice A2 f.devs.length c2, .int .i64 f.step.1, .int .i64 f.step.2, .int .i64 f.method] 27)
  have HF := Lib.hid (hf.more gw)
  have HB := Lib.hid (hb.more gw)
  have HS := Lib.hid (hs.more gw)
  have HGW := Lib.hid gw
  have hdl := (flat_ok h0).2.1
  have hbl : (bentL f).length ≤ 64 := Nat.le_trans (bents_length_le _ _) hdl
  obtain ⟨_, _, hsl, hs1, hs2⟩ := hs.ctor
  have H0 := Lib.hid h0
  clear hf hb hs gw h0 hsl
  by_cases hlen : segs.length = (bentL f).length
  · have t1 : ((segs.length : Int) != ((bentL f).length : Int)) = false := by rw [bne_eq_false_iff_eq]; omega
    have HLEN := Lib.hid hlen
    clear hlen
    go_enter Tryz.func42, Tryz.ntmps42
    go_wp2_with fail
    generalize w.alloc (.cells #[.slice A1 f.nodes.length c1, .slice A2 f.devs.length c2, .int .i64 f.step.1, .int .i64 f.step.2, .int .i64 f.method] 27) = wa at *
    generalize w.heap.size = s at *
    go_loopw [16] (fun iv wr => ∃ k : Nat, k ≤ (bentL f).length ∧ iv = .int .i64 k ∧ wa.grownBy wr none ∧ Hid (∀ t, t < k → segOK f segs t)) (fun iv _ => ((bentL f).length - intOf iv).toNat)
    case atStart => exact ⟨0, by omega, rfl, gb_refl _ _, Lib.hid fun t ht => by omega⟩
    case round =>
      obtain ⟨k, hk, rfl, hg, hall⟩ := hrel
      by_cases hlt : k < (bentL f).length
      · obtain ⟨bb, ob, rfl, u0⟩ := (HB.out.more hg).ints_at hlt
        obtain ⟨bs, os, rfl, _, u1⟩ := (HS.out.more hg).at (i := k) (by rw [HLEN.out]; exact hlt)
        have hmem : (bentL f).getD k 0 ∈ bents f.devs f.devs.length := by rw [List.getD_eq_getElem?_getD, List.getElem?_eq_getElem hlt]; exact List.getElem_mem _
        obtain ⟨j, hj, hjl, hjb⟩ := mem_bents hmem
        have hso : segOK f segs k ↔ 0 ≤ segs.getD k 0 ∧ segs.getD k 0 < ((f.devs.getD j dev0).mg.length : Int) := by unfold segOK segN; rw [hj, Int.toNat_natCast]
        obtain ⟨hmo, hmk⟩ := (dev_ok H0.out hjl).model hjb
        obtain ⟨b, o, An, cn, Av, cv, At, ct, Ag, cg, Am, cm, rfl, hat, hc⟩ := (HF.out.more hg).devs.at2 hjl
        rw [hj] at u0
        generalize f.devs.getD j dev0 = d at *
        obtain ⟨sv, hsv⟩ : ∃ sv, segs.getD k 0 = sv := ⟨_, rfl⟩
        rw [hsv] at u1 hso
        obtain ⟨q0, q1, q2, q3, q4, q5, q6, q7, q8, q9, q10, q11, q12⟩ := hc
        obtain ⟨p0, p1, p2, p3, p4⟩ := HFB.more hg
        have P1 := fun p => gr_cell p1 p
        have U1 := fun p => gr_cell u1 p
        have Q9 := fun p => gr_cell q9 p
        have Q10 := fun p => gr_cell q10 p
        have Q11 := fun p => gr_cell q11 p
        have Q12 := fun p => gr_cell q12 p
        have hC := fun p => Count_calls (gr wr p) d.mname d.mkind _ _ d.mg d.mv hat.mkind.1 hat.mkind.2 (hat.g.more (gr_grown _ p)) (hat.v.more (gr_grown _ p))
        rw [if_pos hmo] at hC
        have HC := Lib.hid hC
        have HSO := Lib.hid hso
        have HALL := Lib.hid hall
        have HG := Lib.hid hg
        have HLT := Lib.hid hlt
        have e0 : (0 : Int) ≤ (k : Int) := by omega
        have e1 : (k : Int) < (segs.length : Int) := by have := HLEN.out; omega
        have e2 : (k : Int) < ((bentL f).length : Int) := by omega
        have e3 : (j : Int) < (f.devs.length : Int) := by omega
        have e4 : (0 : Int) ≤ (j : Int) := by omega
        clear hC hmo hmk hat hso hall hg hmem hj hsv q0 q1 q2 q3 q4 q5 q6 q7 q8 p0 p1 p2 p3 p4 hjb
        by_cases hneg : sv < 0
        · as_aux_lemma =>
            have g1 : decide (sv < 0) = true := by rw [decide_eq_true_iff]; exact hneg
            have HNO := Lib.hid (segsB_no HLT.out fun h => by have := HSO.out.1 h; omega)
            clear hneg
            go_wp2_with fail
            (refine wp_region_gr (by kernel_rfl) (by kernel_rfl) ?_
             repeat (go_big_quiet_step (fail))
             refine wpQuiet_nil ?_
             intro _ hw'
             obtain ⟨pq, hw''⟩ := hw'
             subst hw'')
            have hgq := gr_grown wr pq
            generalize gr wr pq = wq at *
            go_wp2_with fail
            go_ret
            exact ⟨by rw [HNO.out]; rfl, gb_trans HGW.out (gb_trans HG.out hgq)⟩
        · have g1 : decide (sv < 0) = false := by rw [decide_eq_false_iff_not]; exact hneg
          by_cases hbig : (d.mg.length : Int) ≤ sv
          · as_aux_lemma =>
              have g2 : decide ((d.mg.length : Int) ≤ sv) = true := by rw [decide_eq_true_iff]; exact hbig
              have HNO := Lib.hid (segsB_no HLT.out fun h => by have := HSO.out.1 h; omega)
              clear hneg hbig
              go_wp2_with fail
              (refine wp_region_gr (by kernel_rfl) (by kernel_rfl) ?_
               repeat (go_big_quiet_step ((go_at_call 93; exact calls_gr (HC.out _))))
               refine wpQuiet_nil ?_
               intro _ hw'
               obtain ⟨pq, hw''⟩ := hw'
               subst hw'')
              have hgq := gr_grown wr pq
              generalize gr wr pq = wq at *
              go_wp2_with fail
              go_ret
              exact ⟨by rw [HNO.out]; rfl, gb_trans HGW.out (gb_trans HG.out hgq)⟩
          · as_aux_lemma =>
              have g2 : decide ((d.mg.length : Int) ≤ sv) = false := by rw [decide_eq_false_iff_not]; exact hbig
              have HYES := Lib.hid (HSO.out.2 ⟨by omega, by omega⟩)
              clear hneg hbig
              go_wp2_with fail
              (refine wp_region_gr (by kernel_rfl) (by kernel_rfl) ?_
               repeat (go_big_quiet_step ((go_at_call 93; exact calls_gr (HC.out _))))
               refine wpQuiet_nil ?_
               intro _ hw'
               obtain ⟨pq, hw''⟩ := hw'
               subst hw'')
              have hgq := gr_grown wr pq
              generalize gr wr pq = wq at *
              go_wp2_with fail
              exact ⟨⟨k + 1, HLT.out, by go_num, gb_trans HG.out hgq, Lib.hid fun t ht => by
                by_cases htk : t = k
                · subst htk; exact HYES.out
                · exact HALL.out t (by omega)⟩, by simp [intOf]; omega⟩
      · as_aux_lemma =>
          obtain rfl : k = (bentL f).length := by omega
          go_wp2_with fail
          go_ret
          exact ⟨by rw [segsB_ok HLEN.out hall.out]; rfl, gb_trans HGW.out hg⟩
  · as_aux_lemma =>
      have t1 : ((segs.length : Int) != ((bentL f).length : Int)) = true := by rw [bne_iff_ne]; omega
      have HNO := Lib.hid (segsB_len hlen)
      clear hlen
      go_enter Tryz.func42, Tryz.ntmps42
      go_wp2_with fail
      generalize w.alloc (.cells #[.slice A1 f.nodes.length c1, .slice A2 f.devs.length c2, .int .i64 f.step.1, .int .i64 f.step.2, .int .i64 f.method] 27) = wa at *
      generalize w.heap.size = s at *
      go_ret
      exact ⟨by rw [HNO.out]; rfl, HGW.out⟩

end Go.Proofs.YtmfmfpmkgmkgiaaGreatDoor
