/- Contracts of the program's functions, and what they rest on: SysB SysD SysE SysF. -/
import Derived.Test.YtmfmfpmkgmkgiaaGreatDoorMai
import Derived.Test.YtmfmfpmkgmkgiaaGreatDoorMae
set_option linter.unusedVariables false
set_option linter.unusedSimpArgs false
namespace Go.Proofs.YtmfmfpmkgmkgiaaGreatDoor
open Go.RowKit
open Rat

theorem cells_no {n : Int} {l : List CellP} {k : Nat} (hk : k < l.length) (h : ¬ cellOK n l k) : decide (cellsOK n l) = false := by
  rw [decide_eq_false_iff_not]; exact fun hh => h (hh k hk)
theorem cells_yes {n : Int} {l : List CellP} (h : ∀ t, t < l.length → cellOK n l t) : decide (cellsOK n l) = true := by
  rw [decide_eq_true_iff]; exact h

theorem cellOK_at {n : Int} {l : List CellP} {k : Nat} {p p2 : CellP} (h : l.getD k cell0 = p) (h2 : l.getD (k - 1) cell0 = p2) :
    cellOK n l k ↔ (0 ≤ p.col ∧ p.col < n ∧ (0 < k → p2.col < p.col) ∧ IntOK p.neg p.limbs ∧ p.limbs ≠ []) := by unfold cellOK; rw [h, h2]

set_option maxRecDepth 100000 in
set_option maxHeartbeats 40000000 in
theorem cellsRight_calls (w : World) (v : Value) (l : List CellP) (n : Int) (hl : CellRow w v l) :
    Calls Tryz.prog 67 #[v, .int .i64 n] w fun e w' => e = .returned (.bool (decide (cellsOK n l))) ∧ w.grownBy w' none := by
  obtain ⟨A, c, rfl, h1, h2⟩ := hl.ctor
  have HL := Lib.hid hl
  clear hl
  obtain ⟨D, hD⟩ : ∃ D, decide (cellsOK n l) = D := ⟨_, rfl⟩
  rw [hD]
  have HD := Lib.hid hD
  clear hD
  go_enter Tryz.func67, Tryz.ntmps67
  go_wp2_with fail
  go_loopw [9] (fun i wr => ∃ k : Nat, k ≤ l.length ∧ i = .int .i64 k ∧ w.grownBy wr none ∧ Hid (∀ t, t < k → cellOK n l t)) (fun i _ => (l.length - intOf i).toNat)
  case atStart => exact ⟨0, by omega, rfl, gb_refl _ _, Lib.hid (fun t ht => by omega)⟩
  case round =>
    obtain ⟨k, hk, rfl, hg, hb⟩ := hrel
    by_cases hlt : k < l.length
    · obtain ⟨b, o, A', n', c', rfl, hI, q0, q1, q2, hn⟩ := (HL.out.more hg).at hlt
      have hn2 := hn
      have hprev : 0 < k → wr.cell? ⟨b, o + (k - 1) * 3, none⟩ = some (.int .i64 (l.getD (k - 1) cell0).col) := fun h0 => by
        obtain ⟨b', o', _, _, _, e, _, p0, _⟩ := (HL.out.more hg).at (i := k - 1) (by omega)
        injection e with e; injection e with e1 e2 _; subst e1 e2; exact p0
      have HO0 := fun p p2 h h2 => cellOK_at (n := n) (l := l) (k := k) (p := p) (p2 := p2) h h2
      generalize hp : l.getD k cell0 = p at *
      generalize hp2 : l.getD (k - 1) cell0 = p2 at *
      have HO := HO0 _ _ rfl rfl
      obtain ⟨col, neg, limbs⟩ := p
      obtain ⟨col2, neg2, limbs2⟩ := p2
      simp only at q0 q1 q2 hn hn2 hprev HO
      have HO := Lib.hid HO
      clear hp hp2 HO0
      obtain ⟨A2, c2, hlen, hl1, hl2⟩ := hn.form
      injection hlen with e1 e2 e3
      subst e1 e2 e3
      have ga := gb_alloc wr (.cells #[.int .i64 col, .bool neg, .slice A' limbs.length c'] 55) none
      have hB := Blk.new wr #[.int .i64 col, .bool neg, .slice A' limbs.length c'] 55
      have F0 := gr_cell (v := .int .i64 col) (hB.cell 0)
      have F1 := gr_cell (v := .bool neg) (hB.cell 1)
      have F2 := gr_cell (v := .slice A' limbs.length c') (hB.cell 2)
      have hC := fun p => LCheck_calls (gr (wr.alloc (.cells #[.int .i64 col, .bool neg, .slice A' limbs.length c'] 55)) p) neg _ limbs (hn.more (gb_trans ga (gr_grown _ p)))
      have HC := Lib.hid hC
      clear hC hn hn2
      by_cases hc1 : col < 0
      · skip
        go_wp2_with fail
        generalize wr.alloc (.cells #[.int .i64 col, .bool neg, .slice A' limbs.length c'] 55) = W at *
        generalize wr.heap.size = s at *
        (refine wp_region_gr (by kernel_rfl) (by kernel_rfl) ?_
         repeat (go_big_quiet_step (fail))
         refine wpQuiet_nil ?_
         intro _ hw'
         obtain ⟨pq, hw''⟩ := hw'
         subst hw'')
        have hgq := gr_grown W pq
        generalize gr W pq = wq at *
        go_wp2
        go_ret
        exact ⟨ret_bool (by rw [← HD.out]; exact (cells_no hlt (fun h => by obtain ⟨a1, a2, a3, a4, a5⟩ := HO.out.1 h; omega)).symm), gb_trans hg (gb_trans ga hgq)⟩
      have g1 : decide (col < 0) = false := by rw [decide_eq_false_iff_not]; exact hc1
      by_cases hc2 : n ≤ col
      · skip
        go_wp2_with fail
        generalize wr.alloc (.cells #[.int .i64 col, .bool neg, .slice A' limbs.length c'] 55) = W at *
        generalize wr.heap.size = s at *
        (refine wp_region_gr (by kernel_rfl) (by kernel_rfl) ?_
         repeat (go_big_quiet_step (fail))
         refine wpQuiet_nil ?_
         intro _ hw'
         obtain ⟨pq, hw''⟩ := hw'
         subst hw'')
        have hgq := gr_grown W pq
        generalize gr W pq = wq at *
        go_wp2
        go_ret
        exact ⟨ret_bool (by rw [← HD.out]; exact (cells_no hlt (fun h => by obtain ⟨a1, a2, a3, a4, a5⟩ := HO.out.1 h; omega)).symm), gb_trans hg (gb_trans ga hgq)⟩
      have g2 : decide (n ≤ col) = false := by rw [decide_eq_false_iff_not]; exact hc2
      have e0 : (0 : Int) ≤ (k : Int) := by omega
      have e1 : (k : Int) < (l.length : Int) := by omega
      by_cases h0 : 0 < k
      · have d1 : decide ((0 : Int) < (k : Int)) = true := by rw [decide_eq_true_iff]; omega
        have d2 : decide (0 < k) = true := by rw [decide_eq_true_iff]; omega
        have qp := gb_cell ga (hprev h0) (by simp)
        have F3 := gr_cell qp
        have e2 : (0 : Int) ≤ (k : Int) - 1 := by omega
        have e3 : (k : Int) - 1 < (l.length : Int) := by omega
        have e4 : ((k : Int) - 1).toNat = k - 1 := by omega
        have e5 : IntKind.i64.wrap ((k : Int) - 1) = (k : Int) - 1 := IntWalk.i64_in _ (by omega)
        by_cases hc3 : col ≤ col2
        · skip
          go_wp2_with fail
          generalize wr.alloc (.cells #[.int .i64 col, .bool neg, .slice A' limbs.length c'] 55) = W at *
          generalize wr.heap.size = s at *
          (refine wp_region_gr (by kernel_rfl) (by kernel_rfl) ?_
           repeat (go_big_quiet_step (fail))
           refine wpQuiet_nil ?_
           intro _ hw'
           obtain ⟨pq, hw''⟩ := hw'
           subst hw'')
          have hgq := gr_grown W pq
          generalize gr W pq = wq at *
          go_wp2
          go_ret
          exact ⟨ret_bool (by rw [← HD.out]; exact (cells_no hlt (fun h => by obtain ⟨a1, a2, a3, a4, a5⟩ := HO.out.1 h; omega)).symm), gb_trans hg (gb_trans ga hgq)⟩
        have g3 : decide (col ≤ col2) = false := by rw [decide_eq_false_iff_not]; exact hc3
        by_cases hok : IntOK neg limbs
        · have he : (if IntOK neg limbs then (0 : Int) else 10) = 0 := if_pos hok
          rw [he] at HC
          by_cases hem : limbs.length = 0
          · have t : ((limbs.length : Int) == 0) = true := by rw [beq_iff_eq]; omega
            have HNIL := Lib.hid (List.eq_nil_of_length_eq_zero hem)
            clear hem
            go_wp2_with fail
            generalize wr.alloc (.cells #[.int .i64 col, .bool neg, .slice A' limbs.length c'] 55) = W at *
            generalize wr.heap.size = s at *
            (refine wp_region_gr (by kernel_rfl) (by kernel_rfl) ?_
             repeat (go_big_quiet_step ((go_at_call 66; exact calls_gr (HC.out _))))
             refine wpQuiet_nil ?_
             intro _ hw'
             obtain ⟨pq, hw''⟩ := hw'
             subst hw'')
            have hgq := gr_grown W pq
            generalize gr W pq = wq at *
            go_wp2
            go_ret
            exact ⟨ret_bool (by rw [← HD.out]; exact (cells_no hlt (fun h => by obtain ⟨a1, a2, a3, a4, a5⟩ := HO.out.1 h; exact a5 HNIL.out)).symm), gb_trans hg (gb_trans ga hgq)⟩
          · have t : ((limbs.length : Int) == 0) = false := by rw [beq_eq_false_iff_ne]; omega
            have hne : limbs ≠ [] := fun e => hem (by rw [e]; rfl)
            have HNE := Lib.hid hne
            have HOK := Lib.hid hok
            clear hem hne hok he
            go_wp2_with fail
            generalize wr.alloc (.cells #[.int .i64 col, .bool neg, .slice A' limbs.length c'] 55) = W at *
            generalize wr.heap.size = s at *
            (refine wp_region_gr (by kernel_rfl) (by kernel_rfl) ?_
             repeat (go_big_quiet_step ((go_at_call 66; exact calls_gr (HC.out _))))
             refine wpQuiet_nil ?_
             intro _ hw'
             obtain ⟨pq, hw''⟩ := hw'
             subst hw'')
            have hgq := gr_grown W pq
            generalize gr W pq = wq at *
            go_wp2
            exact ⟨⟨k + 1, by omega, by go_num, gb_trans hg (gb_trans ga hgq), Lib.hid (fun t ht => by
              by_cases htk : t = k
              · subst htk; exact HO.out.2 ⟨by omega, by omega, fun h => by omega, HOK.out, HNE.out⟩
              · exact hb.out t (by omega))⟩, by simp [intOf]; omega⟩
        · have he : (if IntOK neg limbs then (0 : Int) else 10) = 10 := if_neg hok
          rw [he] at HC
          have HOK := Lib.hid hok
          clear hok he
          go_wp2_with fail
          generalize wr.alloc (.cells #[.int .i64 col, .bool neg, .slice A' limbs.length c'] 55) = W at *
          generalize wr.heap.size = s at *
          (refine wp_region_gr (by kernel_rfl) (by kernel_rfl) ?_
           repeat (go_big_quiet_step ((go_at_call 66; exact calls_gr (HC.out _))))
           refine wpQuiet_nil ?_
           intro _ hw'
           obtain ⟨pq, hw''⟩ := hw'
           subst hw'')
          have hgq := gr_grown W pq
          generalize gr W pq = wq at *
          go_wp2
          go_ret
          exact ⟨ret_bool (by rw [← HD.out]; exact (cells_no hlt (fun h => by obtain ⟨a1, a2, a3, a4, a5⟩ := HO.out.1 h; exact HOK.out a4)).symm), gb_trans hg (gb_trans ga hgq)⟩
      · have d1 : decide ((0 : Int) < (k : Int)) = false := by rw [decide_eq_false_iff_not]; omega
        have d2 : decide (0 < k) = false := by rw [decide_eq_false_iff_not]; omega
        by_cases hok : IntOK neg limbs
        · have he : (if IntOK neg limbs then (0 : Int) else 10) = 0 := if_pos hok
          rw [he] at HC
          by_cases hem : limbs.length = 0
          · have t : ((limbs.length : Int) == 0) = true := by rw [beq_iff_eq]; omega
            have HNIL := Lib.hid (List.eq_nil_of_length_eq_zero hem)
            clear hem
            go_wp2_with fail
            generalize wr.alloc (.cells #[.int .i64 col, .bool neg, .slice A' limbs.length c'] 55) = W at *
            generalize wr.heap.size = s at *
            (refine wp_region_gr (by kernel_rfl) (by kernel_rfl) ?_
             repeat (go_big_quiet_step ((go_at_call 66; exact calls_gr (HC.out _))))
             refine wpQuiet_nil ?_
             intro _ hw'
             obtain ⟨pq, hw''⟩ := hw'
             subst hw'')
            have hgq := gr_grown W pq
            generalize gr W pq = wq at *
            go_wp2
            go_ret
            exact ⟨ret_bool (by rw [← HD.out]; exact (cells_no hlt (fun h => by obtain ⟨a1, a2, a3, a4, a5⟩ := HO.out.1 h; exact a5 HNIL.out)).symm), gb_trans hg (gb_trans ga hgq)⟩
          · have t : ((limbs.length : Int) == 0) = false := by rw [beq_eq_false_iff_ne]; omega
            have hne : limbs ≠ [] := fun e => hem (by rw [e]; rfl)
            have HNE := Lib.hid hne
            have HOK := Lib.hid hok
            clear hem hne hok he
            go_wp2_with fail
            generalize wr.alloc (.cells #[.int .i64 col, .bool neg, .slice A' limbs.length c'] 55) = W at *
            generalize wr.heap.size = s at *
            (refine wp_region_gr (by kernel_rfl) (by kernel_rfl) ?_
             repeat (go_big_quiet_step ((go_at_call 66; exact calls_gr (HC.out _))))
             refine wpQuiet_nil ?_
             intro _ hw'
             obtain ⟨pq, hw''⟩ := hw'
             subst hw'')
            have hgq := gr_grown W pq
            generalize gr W pq = wq at *
            go_wp2
            exact ⟨⟨k + 1, by omega, by go_num, gb_trans hg (gb_trans ga hgq), Lib.hid (fun t ht => by
              by_cases htk : t = k
              · subst htk; exact HO.out.2 ⟨by omega, by omega, fun h => by omega, HOK.out, HNE.out⟩
              · exact hb.out t (by omega))⟩, by simp [intOf]; omega⟩
        · have he : (if IntOK neg limbs then (0 : Int) else 10) = 10 := if_neg hok
          rw [he] at HC
          have HOK := Lib.hid hok
          clear hok he
          go_wp2_with fail
          generalize wr.alloc (.cells #[.int .i64 col, .bool neg, .slice A' limbs.length c'] 55) = W at *
          generalize wr.heap.size = s at *
          (refine wp_region_gr (by kernel_rfl) (by kernel_rfl) ?_
           repeat (go_big_quiet_step ((go_at_call 66; exact calls_gr (HC.out _))))
           refine wpQuiet_nil ?_
           intro _ hw'
           obtain ⟨pq, hw''⟩ := hw'
           subst hw'')
          have hgq := gr_grown W pq
          generalize gr W pq = wq at *
          go_wp2
          go_ret
          exact ⟨ret_bool (by rw [← HD.out]; exact (cells_no hlt (fun h => by obtain ⟨a1, a2, a3, a4, a5⟩ := HO.out.1 h; exact HOK.out a4)).symm), gb_trans hg (gb_trans ga hgq)⟩
    · obtain rfl : k = l.length := by omega
      go_wp2_with fail
      go_ret
      exact ⟨ret_bool (by rw [← HD.out]; exact (cells_yes hb.out).symm), hg⟩

end Go.Proofs.YtmfmfpmkgmkgiaaGreatDoor

namespace Go.Proofs.YtmfmfpmkgmkgiaaGreatDoor
open Go.RowKit
open Rat

theorem RatB.cells4 {w : World} {b : Nat} {q : Rat} (h : RatB w b q) : ∃ cs T, cs.size = 4 ∧ w.heap[b]? = some (.cells cs T (0, 0)) := by
  obtain ⟨v1, v2, d, T, _, hb, _⟩ := h
  exact ⟨_, T, rfl, hb⟩

set_option maxHeartbeats 40000000 in
theorem times_calls (w : World) (bq bm : Nat) (q : Rat) (m : Int) (hq : RatB w bq q) (hm : IntB w bm m) (lq : LimQ q 200000000) (lm : lim m ≤ 200000000) :
    Calls Tryz.prog 100 #[.pointer (some ⟨bq, 0, none⟩), .pointer (some ⟨bm, 0, none⟩)] w fun e w' => ∃ b, e = .returned (.pointer (some ⟨b, 0, none⟩)) ∧ IntB w' b ((q.num * m).tdiv q.den) ∧ w.heap.size ≤ b ∧ w.grownBy w' none := by
  have ga := gb_alloc w (zint 141) none
  have hz := IntB.new w 141
  have HZ := Lib.hid hz
  have HQ := Lib.hid (hq.more ga)
  have HM := Lib.hid (hm.more ga)
  have HL1 := Lib.hid (Nat.le_trans lq.1 (show 200000000 ≤ 1099511627776 by omega))
  have HL2 := Lib.hid (Nat.le_trans lq.2 (show 200000000 ≤ 1099511627776 by omega))
  have HLM := Lib.hid (Nat.le_trans lm (show 200000000 ≤ 1099511627776 by omega))
  have HLP := Lib.hid (Nat.le_trans (lim_mul q.num m) (show lim q.num + lim m ≤ 1099511627776 by have := lq.1; omega))
  have HDN := Lib.hid (den_ne q)
  clear hz hq hm lq lm
  go_enter Tryz.func100, Tryz.ntmps100
  go_wp2_with fail
  generalize w.alloc (zint 141) = wa at *
  generalize hs : w.heap.size = s at *
  refine (Num_calls wa bq q HQ.out HL1.out).mono ?_
  rintro e w1 ⟨b1, rfl, hn, hb1, hg1⟩
  go_wp2_with fail
  refine (Mul_calls w1 s b1 0 bm 0 0 q.num m (HZ.out.more hg1) hn.at (HM.out.more hg1).at HL1.out HLM.out).mono ?_
  rintro e w2 ⟨rfl, hp, hg2⟩
  have hg12 : wa.grownBy w2 (some s) := gb_trans (gb_none hg1) hg2
  have hltq := HQ.out.lt
  have hqs : bq ≠ s := by
    intro e
    have h1 := HQ.out.cells4
    obtain ⟨cs, T, h4, hb⟩ := h1
    obtain ⟨v, T', hb', _⟩ := HZ.out
    rw [e, hb'] at hb
    injection hb with hb
    injection hb with e1 _ _
    subst e1
    simp at h4
  have HQ2 := Lib.hid ((HQ.out.more hg1).other hg2 (HZ.out.more hg1).plain hqs)
  have HP := Lib.hid hp
  have HG2 := Lib.hid (gb_new (gb_trans ga hg1) hg2 (by omega))
  clear hp hn hg12 hqs hltq
  go_wp2_with fail
  refine (Denom_calls w2 bq q HQ2.out HL2.out).mono ?_
  rintro e w3 ⟨b3, rfl, hd, hb3, hg3⟩
  go_wp2_with fail
  refine (Quo_calls w3 s s 0 b3 0 (q.num * m) (q.num * m) q.den (HP.out.more hg3) (HP.out.more hg3).at hd.at HLP.out HDN.out).mono ?_
  rintro e w4 ⟨rfl, hr, hg4⟩
  go_wp2_with fail
  go_ret
  exact ⟨s, rfl, hr, by omega, gb_new (gb_trans HG2.out hg3) hg4 (by omega)⟩

/-! ### numbers on the grid -/
def onG (v : Int) : Bool := decide (v ≤ 1000000000000000000) && decide (-1000000000000000000 ≤ v)
def I64Row (w : World) (v : Value) (l : List Int) : Prop := IntRow w v l
set_option maxHeartbeats 40000000 in
theorem onGrid1_calls (w : World) (x : Int) : Calls Tryz.prog 112 #[.int .i64 x] w fun e w' => e = .returned (.bool (!onG x)) ∧ w = w' := by
  have HU : Hid ((!onG x) = !(decide (x ≤ 1000000000000000000) && decide (-1000000000000000000 ≤ x))) := Lib.hid rfl
  by_cases h1 : 1000000000000000000 < x
  · go_enter Tryz.func112, Tryz.ntmps112
    go_wp2_with fail
    go_ret
    exact ⟨ret_bool (by rw [HU.out]; simp; omega), rfl⟩
  · go_enter Tryz.func112, Tryz.ntmps112
    go_wp2_with fail
    go_ret
    exact ⟨ret_bool (by rw [HU.out, Bool.eq_iff_iff]; simp; omega), rfl⟩

def FIG (r : Int) (l : List Int) : Prop := -1 ≤ r ∧ (r < 0 ↔ l.all onG = true)
set_option maxRecDepth 100000 in
set_option maxHeartbeats 40000000 in
theorem IndexFuncG_calls (w : World) (v : Value) (l : List Int) (hr : IntRow w v l) :
    Calls Tryz.prog 177 #[v, .func (.func 112) #[] #[]] w fun e w' => ∃ r : Int, e = .returned (.int .i64 r) ∧ Hid (FIG r l) ∧ w = w' := by
  have HR := Lib.hid hr
  obtain ⟨A, c, rfl, h1, h2⟩ := hr.ctor
  clear hr
  go_enter Tryz.func177, Tryz.ntmps177
  go_wp2_with fail
  go_loopw [8] (fun i wr => ∃ k : Nat, k ≤ l.length ∧ i = .int .i64 k ∧ Hid (∀ t, t < k → onG (l.getD t 0) = true) ∧ wr = w) (fun i _ => l.length - (intOf i).toNat)
  case atStart => exact ⟨0, Nat.zero_le _, rfl, Lib.hid (fun t ht => by omega), rfl⟩
  case round =>
    obtain ⟨k, hk, rfl, hS, rfl⟩ := hrel
    by_cases hlt : k < l.length
    · obtain ⟨b, o, rfl, hI, hc⟩ := HR.out.at hlt
      generalize hx : l.getD k 0 = x at *
      have HX := Lib.hid hx
      clear hx
      go_wp2_with fail
      refine (onGrid1_calls wr x).mono ?_
      rintro e w1 ⟨rfl, rfl⟩
      cases hd : onG x with
      | false =>
        have HD := Lib.hid hd
        clear hd
        go_wp2_with fail
        go_ret
        refine ⟨_, rfl, Lib.hid ⟨by omega, ⟨fun h => by omega, fun h => ?_⟩⟩, rfl⟩
        rw [List.all_eq_true] at h
        have := h x (by rw [← HX.out]; simp [List.getD, List.getElem?_eq_getElem hlt])
        rw [HD.out] at this
        cases this
      | true =>
        have HD := Lib.hid hd
        clear hd
        go_wp2_with fail
        exact ⟨⟨k + 1, by omega, by go_num, Lib.hid (fun t ht => by
          by_cases htk : t = k
          · subst htk; rw [HX.out]; exact HD.out
          · exact hS.out t (by omega)), trivial⟩, by simp [intOf]; omega⟩
    · obtain rfl : k = l.length := by omega
      go_wp2_with fail
      go_ret
      refine ⟨_, rfl, Lib.hid ⟨by omega, ⟨fun _ => ?_, fun _ => by omega⟩⟩, rfl⟩
      rw [List.all_eq_true]
      intro x hx
      obtain ⟨j, hj, rfl⟩ := List.mem_iff_getElem.1 hx
      have := hS.out j hj
      rwa [show l.getD j 0 = l[j] by simp [List.getD, List.getElem?_eq_getElem hj]] at this

set_option maxHeartbeats 40000000 in
theorem ContainsFuncG_calls (w : World) (v : Value) (l : List Int) (hr : IntRow w v l) :
    Calls Tryz.prog 111 #[v, .func (.func 112) #[] #[]] w fun e w' => e = .returned (.bool (!l.all onG)) ∧ w = w' := by
  have h := IndexFuncG_calls w v l hr
  obtain ⟨A, c, rfl, h1, h2⟩ := hr.ctor
  have HH := Lib.hid h
  clear hr h
  go_enter Tryz.func111, Tryz.ntmps111
  go_wp2_with fail
  refine HH.out.mono ?_
  rintro e w1 ⟨r, rfl, hf, rfl⟩
  have h1 := hf.out.1
  by_cases hneg : r < 0
  · have hz : ¬ (0 : Int) ≤ r := by omega
    have HA := Lib.hid (hf.out.2.1 hneg)
    go_wp2_with fail
    go_ret
    exact ⟨ret_bool (by rw [HA.out]; simp; omega), rfl⟩
  · have hz : (0 : Int) ≤ r := by omega
    have HA : Hid (l.all onG = false) := Lib.hid (by
      cases hh : l.all onG
      · rfl
      · exact absurd (hf.out.2.2 hh) hneg)
    go_wp2_with fail
    go_ret
    exact ⟨ret_bool (by rw [HA.out]; simp), rfl⟩

set_option maxHeartbeats 40000000 in
theorem onGrid_calls (w : World) (v : Value) (l : List Int) (hr : IntRow w v l) :
    Calls Tryz.prog 57 #[v] w fun e w' => e = .returned (.bool (l.all onG)) ∧ w = w' := by
  have h := ContainsFuncG_calls w v l hr
  obtain ⟨A, c, rfl, h1, h2⟩ := hr.ctor
  have HH := Lib.hid h
  clear hr h
  go_enter Tryz.func57, Tryz.ntmps57
  go_wp2_with fail
  refine HH.out.mono ?_
  rintro e w1 ⟨rfl, rfl⟩
  go_wp2_with fail
  go_ret
  exact ⟨ret_bool (by first | rfl | simp), rfl⟩

end Go.Proofs.YtmfmfpmkgmkgiaaGreatDoor

namespace Go.Proofs.YtmfmfpmkgmkgiaaGreatDoor
open Go.RowKit
open Rat

theorem Blk.seven {w : World} {b : Nat} {x0 x1 x2 x3 x4 x5 x6 : Value} (h : Blk w b #[x0, x1, x2, x3, x4, x5, x6]) :
    w.cell? ⟨b, 0, none⟩ = some x0 ∧ w.cell? ⟨b, 1, none⟩ = some x1 ∧ w.cell? ⟨b, 2, none⟩ = some x2 ∧ w.cell? ⟨b, 3, none⟩ = some x3 ∧ w.cell? ⟨b, 4, none⟩ = some x4 ∧ w.cell? ⟨b, 5, none⟩ = some x5 ∧ w.cell? ⟨b, 6, none⟩ = some x6 :=
  ⟨h.cell 0, h.cell 1, h.cell 2, h.cell 3, h.cell 4, h.cell 5, h.cell 6⟩
theorem sys_no {l : List RowP} {k : Nat} (hk : k < l.length) (h : ¬ rowOK l.length (l.getD k row0)) : sysE l = 130 := by
  unfold sysE; rw [if_neg]; exact fun hh => h (hh.2 k hk)


set_option maxRecDepth 100000 in
set_option maxHeartbeats 40000000 in
theorem SysCheck_calls (w : World) (v : Value) (l : List RowP) (hl : SysRow w v l) :
    Calls Tryz.prog 24 #[.agg #[v]] w fun e w' => e = .returned (.int .i64 (sysE l)) ∧ w.grownBy w' none := by
  obtain ⟨A, c, rfl, h1, h2⟩ := hl.ctor
  have gw := gb_alloc w (.cells #[.slice A l.length c] 38) none
  have hB := Blk.new w #[.slice A l.length c] 38
  have c0 : (w.alloc (.cells #[.slice A l.length c] 38)).cell? ⟨w.heap.size, 0, none⟩ = some (.slice A l.length c) := hB.cell 0
  obtain ⟨R, hR⟩ : ∃ R, sysE l = R := ⟨_, rfl⟩
  rw [hR]
  have HR := Lib.hid hR
  have HL := Lib.hid (hl.more gw)
  clear hR hl hB
  by_cases h48 : 48 < l.length
  · have HF : Hid (R = 130) := Lib.hid (by rw [← HR.out]; unfold sysE; rw [if_neg]; exact fun h => by have := h.1; omega)
    generalize l.length = n at *
    go_enter Tryz.func24, Tryz.ntmps24
    go_wp2_with fail
    go_ret
    exact ⟨ret_int HF.out.symm, gw⟩
  go_enter Tryz.func24, Tryz.ntmps24
  go_wp2_with fail
  generalize w.alloc (.cells #[.slice A l.length c] 38) = wa at *
  generalize w.heap.size = s at *
  go_loopw [14] (fun i wr => ∃ k : Nat, k ≤ l.length ∧ i = .int .i64 k ∧ wa.grownBy wr none ∧ Hid (∀ t, t < k → rowOK l.length (l.getD t row0))) (fun i _ => (l.length - intOf i).toNat)
  case atStart => exact ⟨0, by omega, rfl, gb_refl _ _, Lib.hid (fun t ht => by omega)⟩
  case round =>
    obtain ⟨k, hk, rfl, hg, hb⟩ := hrel
    by_cases hlt : k < l.length
    · obtain ⟨b, o, Am, nm, cm, Aa, ca, Ah, ch, As, cs, Ak, nk, ck, rfl, q0, q1, q2, q3, q4, q5, q6, rm, ra, rh, rs, rk⟩ := (HL.out.more hg).at hlt
      generalize hx : l.getD k row0 = r at *
      have HX := Lib.hid hx
      clear hx
      have ga := gb_alloc wr (.cells #[.bool r.mneg, .slice Am nm cm, .slice Aa r.a.length ca, .slice Ah r.h.length ch, .slice As r.s.length cs, .bool r.kneg, .slice Ak nk ck] 52) none
      have hBX := Blk.new wr #[.bool r.mneg, .slice Am nm cm, .slice Aa r.a.length ca, .slice Ah r.h.length ch, .slice As r.s.length cs, .bool r.kneg, .slice Ak nk ck] 52
      have HBX := Lib.hid hBX
      obtain ⟨p0, p1, p2, p3, p4, p5, p6⟩ := hBX.seven
      have hnm := rm.form
      obtain ⟨A', c', hnm, _, _⟩ := hnm
      injection hnm with e1 hnm e3
      clear e1 e3
      have HNM := Lib.hid hnm
      have HM := Lib.hid (LCheck_calls _ r.mneg _ r.mlimbs (rm.more ga))
      have HRK := Lib.hid (rk.more ga)
      have HRA := Lib.hid (ra.more ga)
      have HRH := Lib.hid (rh.more ga)
      have HRS := Lib.hid (rs.more ga)
      have HG := Lib.hid (gb_trans gw (gb_trans hg ga))
      have HG1 := Lib.hid (gb_trans hg ga)
      clear rm rk ra rh rs hnm hBX
      go_wp2_with fail
      refine HM.out.mono ?_
      rintro e w1 ⟨rfl, g1⟩
      clear p0 p1 p2 p3 p4 p5 p6 q0 q1 q2 q3 q4 q5 q6
      obtain ⟨p0, p1, p2, p3, p4, p5, p6⟩ := (HBX.out.more g1).seven
      by_cases hM : IntOK r.mneg r.mlimbs
      case neg =>
        rw [if_neg hM]
        have HMM := Lib.hid hM
        clear hM
        go_wp2_with fail
        go_ret
        exact ⟨ret_int (by rw [← HR.out]; exact (sys_no hlt (by rw [HX.out]; exact fun h => HMM.out h.1)).symm), gb_trans HG.out g1⟩
      rw [if_pos hM]
      cases hmn : r.mneg with
      | true =>
        have HMM := Lib.hid hmn
        rw [hmn] at p0
        clear hM hmn
        go_wp2_with fail
        go_ret
        exact ⟨ret_int (by rw [← HR.out]; exact (sys_no hlt (by rw [HX.out]; exact fun h => by have := h.2.1; rw [HMM.out] at this; cases this)).symm), gb_trans HG.out g1⟩
      | false =>
        have HM1 := Lib.hid hM
        have HM2 := Lib.hid hmn
        rw [hmn] at p0
        clear hM hmn
        by_cases hz : nm = 0
        · have tz : ((nm : Int) == 0) = true := by rw [beq_iff_eq]; omega
          have HZ : Hid (r.mlimbs = []) := Lib.hid (List.eq_nil_of_length_eq_zero (by rw [← HNM.out]; exact hz))
          clear hz
          go_wp2_with fail
          go_ret
          exact ⟨ret_int (by rw [← HR.out]; exact (sys_no hlt (by rw [HX.out]; exact fun h => h.2.2.1 HZ.out)).symm), gb_trans HG.out g1⟩
        have tz : ((nm : Int) == 0) = false := by rw [beq_eq_false_iff_ne]; omega
        have HZ : Hid (r.mlimbs ≠ []) := Lib.hid (fun h => hz (by rw [HNM.out, h]; rfl))
        clear hz
        have HKC := Lib.hid (LCheck_calls w1 r.kneg _ r.klimbs (HRK.out.more g1))
        go_wp2_with fail
        refine HKC.out.mono ?_
        rintro e w2 ⟨rfl, g2⟩
        clear p0 p1 p2 p3 p4 p5 p6
        obtain ⟨p0, p1, p2, p3, p4, p5, p6⟩ := (HBX.out.more (gb_trans g1 g2)).seven
        by_cases hK : IntOK r.kneg r.klimbs
        case neg =>
          rw [if_neg hK]
          have HMM := Lib.hid hK
          clear hK
          go_wp2_with fail
          go_ret
          exact ⟨ret_int (by rw [← HR.out]; exact (sys_no hlt (by rw [HX.out]; exact fun h => HMM.out h.2.2.2.1)).symm), gb_trans HG.out (gb_trans g1 g2)⟩
        rw [if_pos hK]
        have HK := Lib.hid hK
        clear hK
        have g12 := gb_trans g1 g2
        have HCA := Lib.hid (cellsRight_calls w2 _ r.a l.length (HRA.out.more g12))
        clear g1 g2
        go_wp2_with fail
        refine HCA.out.mono ?_
        rintro e w3 ⟨rfl, g3⟩
        clear p0 p1 p2 p3 p4 p5 p6
        have g13 := gb_trans g12 g3
        obtain ⟨p0, p1, p2, p3, p4, p5, p6⟩ := (HBX.out.more g13).seven
        cases hca : decide (cellsOK l.length r.a) with
        | false =>
          have HMM := Lib.hid (of_decide_eq_false hca)
          clear hca
          go_wp2_with fail
          go_ret
          exact ⟨ret_int (by rw [← HR.out]; exact (sys_no hlt (by rw [HX.out]; exact fun h => HMM.out h.2.2.2.2.1)).symm), gb_trans HG.out g13⟩
        | true =>
          have HA := Lib.hid (of_decide_eq_true hca)
          have HCH := Lib.hid (cellsRight_calls w3 _ r.h l.length (HRH.out.more g13))
          clear hca g12 g3
          go_wp2_with fail
          refine HCH.out.mono ?_
          rintro e w4 ⟨rfl, g4⟩
          clear p0 p1 p2 p3 p4 p5 p6
          have g14 := gb_trans g13 g4
          obtain ⟨p0, p1, p2, p3, p4, p5, p6⟩ := (HBX.out.more g14).seven
          cases hch : decide (cellsOK l.length r.h) with
          | false =>
            have HMM := Lib.hid (of_decide_eq_false hch)
            clear hch
            go_wp2_with fail
            go_ret
            exact ⟨ret_int (by rw [← HR.out]; exact (sys_no hlt (by rw [HX.out]; exact fun h => HMM.out h.2.2.2.2.2.1)).symm), gb_trans HG.out g14⟩
          | true =>
            have HH := Lib.hid (of_decide_eq_true hch)
            have HCS := Lib.hid (cellsRight_calls w4 _ r.s 64 (HRS.out.more g14))
            clear hch g13 g4
            go_wp2_with fail
            refine HCS.out.mono ?_
            rintro e w5 ⟨rfl, g5⟩
            have g15 := gb_trans g14 g5
            cases hcs : decide (cellsOK 64 r.s) with
            | false =>
              have HMM := Lib.hid (of_decide_eq_false hcs)
              clear hcs
              go_wp2_with fail
              go_ret
              exact ⟨ret_int (by rw [← HR.out]; exact (sys_no hlt (by rw [HX.out]; exact fun h => HMM.out h.2.2.2.2.2.2)).symm), gb_trans HG.out g15⟩
            | true =>
              have HS := Lib.hid (of_decide_eq_true hcs)
              clear hcs
              go_wp2_with fail
              exact ⟨⟨k + 1, by omega, by go_num, gb_trans HG1.out g15, Lib.hid (fun t ht => by
                by_cases htk : t = k
                · subst htk; rw [HX.out]; exact ⟨HM1.out, HM2.out, HZ.out, HK.out, HA.out, HH.out, HS.out⟩
                · exact hb.out t (by omega))⟩, by simp [intOf]; omega⟩
    · obtain rfl : k = l.length := by omega
      have HF : Hid (R = 0) := Lib.hid (by rw [← HR.out]; unfold sysE; rw [if_pos]; exact ⟨by omega, hb.out⟩)
      go_wp2_with fail
      go_ret
      exact ⟨ret_int HF.out.symm, gb_trans gw hg⟩

end Go.Proofs.YtmfmfpmkgmkgiaaGreatDoor

namespace Go.Proofs.YtmfmfpmkgmkgiaaGreatDoor
open Go.RowKit
open Rat
def accZ (k : Int) (l : List CellP) (x : List Int) : Nat → Int
  | 0 => k
  | t + 1 => accZ k l x t + (l.getD t cell0).z * x.getD (l.getD t cell0).col.toNat 0
def sideZ (r : RowP) (prev src : List Int) : Int := accZ (accZ r.k r.h prev r.h.length) r.s src r.s.length
theorem cells_rising {n : Int} {l : List CellP} (h : cellsOK n l) : ∀ t : Nat, t < l.length → (t : Int) ≤ (l.getD t cell0).col
  | 0, ht => by have := (h 0 ht).1; omega
  | t + 1, ht => by
    have h1 := cells_rising h t (by omega)
    have h2 := (h (t + 1) ht).2.2.1 (by omega)
    rw [Nat.add_sub_cancel] at h2
    omega
theorem cells_len {n : Int} {l : List CellP} (h : cellsOK n l) (hn : 0 ≤ n) : (l.length : Int) ≤ n := by
  by_cases h0 : l.length = 0
  · omega
  · have h1 := cells_rising h (l.length - 1) (by omega)
    have h2 := (h (l.length - 1) (by omega)).2.1
    omega
theorem lim_cell {n : Int} {l : List CellP} {t : Nat} (h : cellsOK n l) (ht : t < l.length) (hb : ∀ x ∈ (l.getD t cell0).limbs, x < 4294967296) : lim (l.getD t cell0).z ≤ 72 := by
  have h4 := (h t ht).2.2.2.1.1
  exact Nat.le_trans (lim_sg hb) h4
theorem accZ_lim {k : Int} {l : List CellP} {x : List Int} {b : Nat} (hk : lim k ≤ 74 + b) (hc : ∀ t, t < l.length → lim (l.getD t cell0).z ≤ 72) (hx : ∀ i, I64 (x.getD i 0)) : ∀ t, t ≤ l.length → lim (accZ k l x t) ≤ 74 + b + t
  | 0, _ => hk
  | t + 1, ht => by
    have h1 := accZ_lim hk hc hx t (by omega)
    have h2 : lim ((l.getD t cell0).z * x.getD (l.getD t cell0).col.toNat 0) ≤ 74 := by
      have a := lim_mul (l.getD t cell0).z (x.getD (l.getD t cell0).col.toNat 0)
      have b := hc t (by omega)
      have c := lim_i64 (hx (l.getD t cell0).col.toNat).1 (hx (l.getD t cell0).col.toNat).2
      omega
    have := lim_add (x := accZ k l x t) (y := (l.getD t cell0).z * x.getD (l.getD t cell0).col.toNat 0) (k := 74 + b + t) h1 (by omega)
    exact this
def IntsR (w : World) (xs : List Value) : List Int → Prop
  | [] => xs = []
  | z :: L => ∃ A n c rest, xs = [.bool (decide (z < 0)), .slice A n c] ++ rest ∧ Nums w (.slice A n c) (digs z) ∧ IntsR w rest L
theorem IntsR.snoc {w : World} {A : Option Addr} {n c : Nat} {z : Int} (hs : Nums w (.slice A n c) (digs z)) : ∀ {xs : List Value} {L : List Int}, IntsR w xs L → IntsR w (xs ++ [.bool (decide (z < 0)), .slice A n c]) (L ++ [z])
  | xs, [], h => by
    have : xs = [] := h
    subst this
    exact ⟨A, n, c, [], by simp, hs, rfl⟩
  | xs, t :: L, ⟨A1, n1, c1, rest, e, h1, h2⟩ => ⟨A1, n1, c1, rest ++ [.bool (decide (z < 0)), .slice A n c], by rw [e, List.append_assoc], h1, h2.snoc hs⟩
theorem IntsR.imp {w w' : World} (hi : ∀ v ds, Nums w v ds → Nums w' v ds) : ∀ {xs : List Value} {L : List Int}, IntsR w xs L → IntsR w' xs L
  | _, [], h => h
  | _, _ :: _, ⟨A1, n1, c1, rest, e, h1, h2⟩ => ⟨A1, n1, c1, rest, e, hi _ _ h1, h2.imp hi⟩
theorem IntsR.length {w : World} : ∀ {xs : List Value} {L : List Int}, IntsR w xs L → xs.length = L.length * 2
  | _, [], h => by have : _ = [] := h; subst this; rfl
  | _, _ :: L, ⟨_, _, _, rest, e, _, h2⟩ => by rw [e, List.length_append, h2.length, List.length_cons]; simp; omega
theorem IntsR.at {w : World} : ∀ {xs : List Value} {L : List Int}, IntsR w xs L → ∀ i (hi : i < L.length), ∃ A n c, xs[i * 2]? = some (.bool (decide (L[i] < 0))) ∧ xs[i * 2 + 1]? = some (.slice A n c) ∧ Nums w (.slice A n c) (digs L[i])
  | _, [], _, i, hi => by simp at hi
  | _, z :: L, ⟨A, n, c, rest, e, h1, h2⟩, 0, hi => ⟨A, n, c, by rw [e]; rfl, by rw [e]; rfl, h1⟩
  | _, z :: L, ⟨A, n, c, rest, e, h1, h2⟩, i + 1, hi => by
    obtain ⟨A', n', c', h3, h4, h5⟩ := h2.at i (by simpa using hi)
    refine ⟨A', n', c', ?_, ?_, h5⟩
    · rw [e, show (i + 1) * 2 = i * 2 + 1 + 1 by omega]; exact h3
    · rw [e, show (i + 1) * 2 + 1 = i * 2 + 1 + 1 + 1 by omega]; exact h4
def ZRow (w : World) (v : Value) (L : List Int) : Prop :=
  ∃ A c, v = .slice A L.length c ∧ (0 < L.length → ∃ b, A = some ⟨b, 0, none⟩ ∧ ∀ i (hi : i < L.length), ∃ A' n' c', w.cell? ⟨b, i * 2, none⟩ = some (.bool (decide (L[i] < 0))) ∧ w.cell? ⟨b, i * 2 + 1, none⟩ = some (.slice A' n' c') ∧ Nums w (.slice A' n' c') (digs L[i]))
def rowsFit (l : List RowP) (m : Nat) : Prop := ∀ i, i < l.length → (l.getD i row0).s.length = 0 ∨ ((l.getD i row0).s.getD ((l.getD i row0).s.length - 1) cell0).col < (m : Int)
instance (l : List RowP) (m : Nat) : Decidable (rowsFit l m) := by unfold rowsFit; infer_instance
def sides (l : List RowP) (prev src : List Int) : List Int := l.map fun r => sideZ r prev src
def rhsE (l : List RowP) (prev src : List Int) : Int :=
  if sysE l ≠ 0 then sysE l
  else if prev.length ≠ l.length then 5
  else if ¬ rowsFit l src.length then 5
  else if !(prev.all onG && src.all onG) then 4
  else if ∀ i, i < l.length → lim ((sides l prev src).getD i 0) ≤ 72 then 0 else 13
def rhsV (l : List RowP) (prev src : List Int) : List Int := if rhsE l prev src = 0 then sides l prev src else []

end Go.Proofs.YtmfmfpmkgmkgiaaGreatDoor
