/- Contracts of the program's functions, and what they rest on: AddB. -/
import Derived.Test.YtmfmfpmkgmkgiaaGreatDoorMay
import Derived.Test.YtmfmfpmkgmkgiaaGreatDoorMax
import Derived.Test.YtmfmfpmkgmkgiaaGreatDoorMaw
import Derived.Test.YtmfmfpmkgmkgiaaGreatDoorMan
import Derived.Test.YtmfmfpmkgmkgiaaGreatDoorMai
import Derived.Deep.DeepCutAuto
set_option linter.unusedVariables false
set_option linter.unusedSimpArgs false
namespace Go.Proofs.YtmfmfpmkgmkgiaaGreatDoor
open Go.RowKit Go.Maps

theorem LAddZ_calls (w : World) (x y : Int) (v1 v2 : Value) (hx : Nums w v1 (digs x)) (hy : Nums w v2 (digs y)) (lx : lim x ≤ 72) (ly : lim y ≤ 72) :
    Calls Tryz.prog 38 #[.agg #[.bool (decide (x < 0)), v1], .agg #[.bool (decide (y < 0)), v2]] w fun e w' => ∃ s, e = .returned (.tuple #[.agg #[.bool (decide (ans (x + y) < 0)), s], .int .i64 (ansE (x + y))]) ∧ Nums w' s (digs (ans (x + y))) ∧ From w.heap.size s ∧ w.grownBy w' none := by
  refine (LAdd_calls w (decide (x < 0)) (decide (y < 0)) v1 v2 _ _ hx hy).mono ?_
  rintro e w' ⟨s, rfl, hn, hf, hg⟩
  have e1 : sg (decide (x < 0)) (val 4294967296 (digs x)) = x := by rw [val_digs]; exact sg_self x
  have e2 : sg (decide (y < 0)) (val 4294967296 (digs y)) = y := by rw [val_digs]; exact sg_self y
  have ho : okI (decide (x < 0)) (decide (y < 0)) (digs x) (digs y) := ⟨intOK_digs x lx, intOK_digs y ly⟩
  rw [e1, e2] at hn ⊢
  unfold ans2 at hn ⊢
  unfold ans2E
  rw [if_pos ho] at hn ⊢
  rw [if_pos ho]
  exact ⟨s, rfl, hn, hf, hg⟩
theorem LAddZ_new (w : World) (cs : Array Value) (T : TypeId) (x y : Int) (v1 v2 : Value) (hx : Nums (w.alloc (.cells cs T)).drew v1 (digs x)) (hy : Nums (w.alloc (.cells cs T)).drew v2 (digs y)) (lx : lim x ≤ 72) (ly : lim y ≤ 72) :
    Calls Tryz.prog 38 #[.agg #[.bool (decide (x < 0)), v1], .agg #[.bool (decide (y < 0)), v2]] (w.alloc (.cells cs T)).drew fun e w' => ∃ s, e = .returned (.tuple #[.agg #[.bool (decide (ans (x + y) < 0)), s], .int .i64 (ansE (x + y))]) ∧ Nums w' s (digs (ans (x + y))) ∧ s.ownBlock ≠ some w.heap.size ∧ Blk w' w.heap.size cs ∧ w.grownBy w' none :=
  (LAddZ_calls _ x y v1 v2 hx hy lx ly).mono fun e w' ⟨s, h1, h2, hf, h3⟩ => ⟨s, h1, h2, fun e => by have h := hf _ e; simp [World.drew] at h; omega, ((Blk.new w cs T).more (gb_drew _ _)).more h3, gb_trans (gb_trans (gb_alloc _ _ _) (gb_drew _ _)) h3⟩
theorem new_blk {w w9 : World} {cs : Array Value} {T : TypeId} {s : Nat} (hs : w.heap.size = s) (h : (w.alloc (.cells cs T)).grownBy w9 none) : Blk w9 s cs := by subst hs; exact (Blk.new w cs T).more h
theorem two_own (w : World) (a b : List Int) (T : TypeId) : OwnZ ((w.alloc (.cells (ints a).toArray T)).alloc (.cells (ints b).toArray T)).drew w.heap.size a ∧ OwnZ ((w.alloc (.cells (ints a).toArray T)).alloc (.cells (ints b).toArray T)).drew (w.heap.size + 1) b ∧ w.grownBy ((w.alloc (.cells (ints a).toArray T)).alloc (.cells (ints b).toArray T)).drew none := by
  have h1 : OwnZ (w.alloc (.cells (ints a).toArray T)) w.heap.size a := ⟨T, heap_alloc_new _ _⟩
  have h2 : OwnZ ((w.alloc (.cells (ints a).toArray T)).alloc (.cells (ints b).toArray T)) (w.heap.size + 1) b := ⟨T, heap_new _ (by simp)⟩
  exact ⟨(h1.more (gb_alloc _ _ _)).more (gb_drew _ _), h2.more (gb_drew _ _), gb_trans (gb_alloc _ _ _) (gb_trans (gb_alloc _ _ _) (gb_drew _ _))⟩
theorem add_tab {x more : List Int} (i : Nat) : x.getD i 0 + (tab x.length x.length (fun t => more.getD t 0)).getD i 0 = (tab x.length x.length (fun t => x.getD t 0 + more.getD t 0)).getD i 0 + (List.replicate x.length 0).getD i 0 := by
  rw [tab_getD, tab_getD]
  have hz : (List.replicate x.length (0 : Int)).getD i 0 = 0 := by
    rw [List.getD_eq_getElem?_getD]
    by_cases h : i < x.length <;> simp [h]
  rw [hz]
  by_cases h : i < x.length
  · rw [if_pos ⟨h, h⟩, if_pos ⟨h, h⟩]; omega
  · rw [if_neg (by omega), if_neg (by omega), List.getD_eq_getElem?_getD, List.getElem?_eq_none (by omega)]; rfl
theorem zeros_onG (n : Nat) : (List.replicate n (0 : Int)).all onG = true := List.all_eq_true.2 (fun x hx => by obtain ⟨_, rfl⟩ := List.mem_replicate.1 hx; rfl)
theorem zeros_row {w : World} {g n : Nat} {T : TypeId} (h : w.heap[g]? = some (.cells (ints (List.replicate n 0)).toArray T (0, 0))) (hn : n ≤ 9223372036854775807) : IntRow w (.slice (some ⟨g, 0, none⟩) n n) (List.replicate n 0) := by
  have := OwnZ.row (w := w) (g := g) (xs := List.replicate n 0) ⟨T, h⟩ (by simpa using hn) (fun x hx => by obtain ⟨_, rfl⟩ := List.mem_replicate.1 hx; decide)
  simpa using this
theorem zeros_old (w : World) (n : Nat) (T : TypeId) (o : Obj) (hn : n ≤ 9223372036854775807) : IntRow ((w.alloc (.cells (ints (List.replicate n 0)).toArray T)).alloc o) (.slice (some ⟨w.heap.size, 0, none⟩) n n) (List.replicate n 0) :=
  (zeros_row (heap_alloc_new _ _) hn).more (gb_alloc _ _ _)
theorem zeros_new (w : World) (n : Nat) (T : TypeId) (o : Obj) (hn : n ≤ 9223372036854775807) : IntRow ((w.alloc o).alloc (.cells (ints (List.replicate n 0)).toArray T)) (.slice (some ⟨w.heap.size + 1, 0, none⟩) n n) (List.replicate n 0) :=
  zeros_row (heap_new _ (by simp)) hn
set_option maxRecDepth 100000 in
set_option maxHeartbeats 40000000 in
theorem Adds_calls (w : World) (v vp vs vm : Value) (l : List RowP) (prev src more : List Int) (hG : GlobOK w) (hl : SysRow w v l) (hp : IntRow w vp prev) (hs : IntRow w vs src) (hm : IntRow w vm more) :
    Calls Tryz.prog 9 #[.agg #[v], .agg #[vp, vs, vm]] w fun e w' => e = .returned (.bool true) ∧ w.grownBy w' none := by
  obtain ⟨A, c, rfl, h1, h2⟩ := hl.ctor
  obtain ⟨Ap, cp, rfl, p1, p2⟩ := hp.ctor
  obtain ⟨As, cs, rfl, s1, s2⟩ := hs.ctor
  obtain ⟨Am, cm, rfl, m1, m2⟩ := hm.ctor
  have g1 := gb_alloc w (.cells #[.slice A l.length c] 38) none
  have g2 := gb_alloc (w.alloc (.cells #[.slice A l.length c] 38)) (.cells #[.slice Ap prev.length cp, .slice As src.length cs, .slice Am more.length cm] 99) none
  have gw := gb_trans g1 g2
  have hB := (Blk.new w #[.slice A l.length c] 38).more g2
  have hX := Blk.new (w.alloc (.cells #[.slice A l.length c] 38)) #[.slice Ap prev.length cp, .slice As src.length cs, .slice Am more.length cm] 99
  rw [World.size_alloc] at hX
  have HL := Lib.hid (hl.more gw)
  have HP := Lib.hid (hp.more gw)
  have HS := Lib.hid (hs.more gw)
  have HM := Lib.hid (hm.more gw)
  have HB := Lib.hid hB
  have HX := Lib.hid hX
  have HGW := Lib.hid gw
  have HA := Lib.hid (awake_calls _ (hG.more gw))
  clear hl hp hs hm hB hX gw hG g1 g2
  go_enter Tryz.func9, Tryz.ntmps9
  go_wp2_with fail
  generalize (w.alloc (.cells #[.slice A l.length c] 38)).alloc (.cells #[.slice Ap prev.length cp, .slice As src.length cs, .slice Am more.length cm] 99) = wa at HL HP HS HM HB HX HGW HA ⊢
  generalize w.heap.size = sb at HB HX ⊢
  refine HA.out.mono ?_
  rintro e w1 ⟨rfl, hg1⟩
  have HG1 := Lib.hid hg1
  have x0 := (HX.out.more hg1).cell 0
  have x1 := (HX.out.more hg1).cell 1
  have x2 := (HX.out.more hg1).cell 2
  simp at x0 x1 x2
  clear hg1 HA
  go_wp2_with fail
  go_quiet (fail)
  have hgd := gb_drewN w1 nq none
  generalize w1.drewN nq = wd at *
  have HGD := Lib.hid (gb_trans HG1.out hgd)
  have c0 := (HB.out.more HGD.out).cell 0
  clear hgd x0 x1 x2 HG1
  go_wp2_with fail
  refine (heavy_calls wd _ l (HL.out.more HGD.out)).mono ?_
  rintro e w2 ⟨hv, rfl, hg2⟩
  have HG2 := Lib.hid (gb_trans HGD.out hg2)
  have c0 := (HB.out.more HG2.out).cell 0
  clear hg2
  cases hv
  case true =>
    go_wp2_with fail
    go_ret
    exact ⟨rfl, gb_trans HGW.out HG2.out⟩
  case false =>
    go_wp2_with fail
    refine (RSysCheck_calls w2 _ l (HL.out.more HG2.out)).mono ?_
    rintro e w3 ⟨rfl, hg3⟩
    have HG2 := Lib.hid (gb_trans HG2.out hg3)
    have c0 := (HB.out.more HG2.out).cell 0
    clear hg3
    by_cases h0 : sysE l = 0
    case neg =>
     as_aux_lemma =>
      have t : (sysE l != 0) = true := by rw [bne_iff_ne]; exact h0
      generalize sysE l = E at *
      go_wp2_with fail
      go_ret
      exact ⟨rfl, gb_trans HGW.out HG2.out⟩
    case pos =>
     as_aux_lemma =>
      rw [h0]
      have H0 := Lib.hid h0
      clear h0
      by_cases hn : prev.length = l.length
      case neg =>
       as_aux_lemma =>
        have t : (((prev.length : Nat) : Int) != ((l.length : Nat) : Int)) = true := by rw [bne_iff_ne]; omega
        have HNN := Lib.hid hn
        clear hn
        go_wp2_with fail
        go_ret
        exact ⟨rfl, gb_trans HGW.out HG2.out⟩
      case pos =>
       as_aux_lemma =>
        have t : (((prev.length : Nat) : Int) != ((l.length : Nat) : Int)) = false := by rw [bne_eq_false_iff_eq]; omega
        have HN := Lib.hid hn
        clear hn
        by_cases hm : 64 < src.length
        case pos =>
         as_aux_lemma =>
          have t2 : (64 : Int) < (src.length : Int) := by omega
          go_wp2_with fail
          go_ret
          exact ⟨rfl, gb_trans HGW.out HG2.out⟩
        case neg =>
         as_aux_lemma =>
          have t2 : ¬ (64 : Int) < (src.length : Int) := by omega
          go_wp2_with fail
          refine (ROnGrid_calls w3 _ prev (HP.out.more HG2.out)).mono ?_
          rintro e wz ⟨rfl, rfl⟩
          by_cases ho : prev.all onG = true
          case neg =>
           as_aux_lemma =>
            rw [Bool.eq_false_iff.2 ho]
            have HO := Lib.hid ho
            clear ho
            go_wp2_with fail
            go_ret
            exact ⟨rfl, gb_trans HGW.out HG2.out⟩
          rw [ho]
          have HO1 := Lib.hid ho
          clear ho
          go_wp2_with fail
          refine (ROnGrid_calls w3 _ src (HS.out.more HG2.out)).mono ?_
          rintro e wz ⟨rfl, rfl⟩
          by_cases ho : src.all onG = true
          case neg =>
           as_aux_lemma =>
            rw [Bool.eq_false_iff.2 ho]
            have HO := Lib.hid ho
            clear ho
            go_wp2_with fail
            go_ret
            exact ⟨rfl, gb_trans HGW.out HG2.out⟩
          rw [ho]
          have HO2 := Lib.hid ho
          clear ho
          go_wp2_with fail
          refine (ROnGrid_calls w3 _ more (HM.out.more HG2.out)).mono ?_
          rintro e wz ⟨rfl, rfl⟩
          by_cases ho : more.all onG = true
          case neg =>
           as_aux_lemma =>
            rw [Bool.eq_false_iff.2 ho]
            have HO := Lib.hid ho
            clear ho
            go_wp2_with fail
            go_ret
            exact ⟨rfl, gb_trans HGW.out HG2.out⟩
          rw [ho]
          have HO3 := Lib.hid ho
          clear ho
          have h48 := (sys_ok H0.out).1
          have hn := HN.out
          have hmk1 := make_i64 (P := Tryz.prog) 59 2 Tryz.underlying59 int64info prev.length (by omega) (prev.length : Int) rfl
          have hmk2 := make_i64 (P := Tryz.prog) 59 2 Tryz.underlying59 int64info src.length (by omega) (src.length : Int) rfl
          simp only [zeros_i64s] at hmk1 hmk2
          clear c0 t t2 hn
          go_upto_region 6 with (fail)
          go_cut [8, 9] (fun p q wx => ∃ gp gq, p = .slice (some ⟨gp, 0, none⟩) prev.length prev.length ∧ q = .slice (some ⟨gq, 0, none⟩) src.length src.length ∧ gp ≠ gq ∧ w3.heap.size ≤ gp ∧ w3.heap.size ≤ gq ∧ w3.grownBy wx none ∧ Hid (OwnZ wx gp (List.replicate prev.length 0)) ∧ Hid (OwnZ wx gq (List.replicate src.length 0)))
          case first =>
           as_aux_lemma =>
            go_region
            all_goals
              go_wp2_with fail
              go_meet
              obtain ⟨oa, ob, og⟩ := two_own w3 _ _ 2
              first
              | exact ⟨_, _, rfl, rfl, by omega, by omega, by omega, og, Lib.hid oa, Lib.hid ob⟩
              | exact ⟨_, _, rfl, rfl, by omega, by omega, by omega, og, Lib.hid ob, Lib.hid oa⟩
          case rest =>
           as_aux_lemma =>
            obtain ⟨gp, gq, rfl, rfl, e1, e2, e3, hg, op, oq⟩ := hcut
            obtain ⟨wd1, rfl⟩ : ∃ W : World, W = wc := ⟨_, rfl⟩
            go_upto_region 7 with (fail)
            go_cut [10, 11] (fun p q wx => ∃ gu gv, p = .slice (some ⟨gu, 0, none⟩) prev.length prev.length ∧ q = .slice (some ⟨gv, 0, none⟩) src.length src.length ∧ gu ≠ gv ∧ wd1.heap.size ≤ gu ∧ wd1.heap.size ≤ gv ∧ wd1.grownBy wx none ∧ Hid (OwnZ wx gu (List.replicate prev.length 0)) ∧ Hid (OwnZ wx gv (List.replicate src.length 0)))
            case first =>
             as_aux_lemma =>
              go_region
              all_goals
                go_wp2_with fail
                go_meet
                obtain ⟨oa, ob, og⟩ := two_own wd1 _ _ 2
                first
                | exact ⟨_, _, rfl, rfl, by omega, by omega, by omega, og, Lib.hid oa, Lib.hid ob⟩
                | exact ⟨_, _, rfl, rfl, by omega, by omega, by omega, og, Lib.hid ob, Lib.hid oa⟩
            case rest =>
             as_aux_lemma =>
              obtain ⟨gu, gv, rfl, rfl, e4, e5, e6, hg2, ou, ov⟩ := hcut
              have l1 := op.out.lt
              have l2 := oq.out.lt
              have op := Lib.hid (op.out.more hg2)
              have oq := Lib.hid (oq.out.more hg2)
              have hg := gb_trans hg hg2
              have e5 : w3.heap.size ≤ gu := by omega
              have e6 : w3.heap.size ≤ gv := by omega
              have ne1 : gp ≠ gu := by omega
              have ne2 : gp ≠ gv := by omega
              have ne3 : gq ≠ gu := by omega
              have ne4 : gq ≠ gv := by omega
              clear hg2 l1 l2 hmk1 hmk2
              obtain ⟨F, hF⟩ : ∃ F : Nat → Int, F = fun t => more.getD t 0 := ⟨_, rfl⟩
              obtain ⟨F1, hF1⟩ : ∃ F : Nat → Int, F = fun t => prev.getD t 0 + more.getD t 0 := ⟨_, rfl⟩
              obtain ⟨F2, hF2⟩ : ∃ F : Nat → Int, F = fun t => src.getD t 0 + more.getD t 0 := ⟨_, rfl⟩
              rw [← tab_zero _ F1] at op
              rw [← tab_zero _ F] at ou
              rw [← tab_zero _ F2] at oq
              rw [← tab_zero _ F] at ov
              have HF := Lib.hid hF
              have HF1 := Lib.hid hF1
              have HF2 := Lib.hid hF2
              clear hF hF1 hF2
              go_wp2_with fail
              go_loopw [84] (fun iv wr => ∃ k : Nat, k ≤ prev.length ∧ iv = .int .i64 k ∧ w3.grownBy wr none ∧ Hid (OwnZ wr gp (tab prev.length k F1)) ∧ Hid (OwnZ wr gu (tab prev.length k F)) ∧ Hid (OwnZ wr gq (tab src.length 0 F2)) ∧ Hid (OwnZ wr gv (tab src.length 0 F))) (fun iv _ => (prev.length - intOf iv).toNat)
              case atStart => exact ⟨0, by omega, rfl, hg, op, ou, oq, ov⟩
              case round =>
               as_aux_lemma =>
                clear hg op ou oq ov
                obtain ⟨k, hk, rfl, hg, op, ou, oq, ov⟩ := hrel
                by_cases hlt : k < prev.length
                · as_aux_lemma =>
                  obtain ⟨bp, o1, rfl, i1, u1⟩ := (HP.out.more HG2.out).at hlt
                  have b1 := lt_of_cell u1
                  have e8 : F1 k = prev.getD k 0 + more.getD k 0 := by rw [HF1.out]
                  have e9 : F k = more.getD k 0 := by rw [HF.out]
                  have q1 := onG_iff.1 (all_getD HO1.out k)
                  have q2 := onG_iff.1 (all_getD HO3.out k)
                  by_cases hmk : k < more.length
                  case pos =>
                   as_aux_lemma =>
                    obtain ⟨bm, o2, rfl, i2, u2⟩ := (HM.out.more HG2.out).at hmk
                    have u2 := gb_cell hg u2 (by simp)
                    generalize prev.getD k 0 = X at *
                    generalize more.getD k 0 = Y at *
                    have c3 := ou.out.cell (i := k) (by rw [tab_length]; exact hlt)
                    have f3 := ou.out.free k
                    generalize (tab prev.length k F).getD k 0 = Z at *
                    have hgz := gb_new hg (gb_set wr gu k (.int .i64 Y)) e5
                    have ou := Lib.hid (ou.out.set k Y)
                    rw [← e9, tab_set, e9] at ou
                    have op := Lib.hid (op.out.other (gb_set wr gu k (.int .i64 Y)) (by omega))
                    have oq := Lib.hid (oq.out.other (gb_set wr gu k (.int .i64 Y)) (by omega))
                    have ov := Lib.hid (ov.out.other (gb_set wr gu k (.int .i64 Y)) (by omega))
                    have HGZ := Lib.hid hgz
                    have E8 := Lib.hid e8
                    have E9 := Lib.hid e9
                    clear hg i1 i2 hgz e8 e9
                    go_wp2_with fail
                    generalize wr.setCell ⟨gu, k, none⟩ (.int .i64 Y) = wz at *
                    clear c3 f3 u2
                    have u1 := gb_cell HGZ.out u1 (by simp)
                    have u3 := ou.out.cell (i := k) (by rw [tab_length]; exact hlt)
                    rw [tab_getD, if_pos ⟨hlt, by omega⟩, E9.out] at u3
                    have c4 := op.out.cell (i := k) (by rw [tab_length]; exact hlt)
                    have f4 := op.out.free k
                    generalize (tab prev.length k F1).getD k 0 = Z at *
                    have q0 : IntKind.i64.wrap (X + Y) = X + Y := IntWalk.i64_in _ (by omega)
                    have hgd := gb_drew wz none
                    go_still_tail 12, (by kernel_rfl)
                    change wpList _ _ _ _ _ wz.drew
                    go_wp2_with fail
                    have op2 := (op.out.more hgd).set k (X + Y)
                    rw [← E8.out, tab_set, E8.out] at op2
                    exact ⟨⟨k + 1, by omega, by go_num, gb_new (gb_trans HGZ.out hgd) (gb_set _ _ _ _) e2, Lib.hid op2, Lib.hid ((ou.out.more hgd).other (gb_set _ _ _ _) (by omega)), Lib.hid ((oq.out.more hgd).other (gb_set _ _ _ _) (by omega)), Lib.hid ((ov.out.more hgd).other (gb_set _ _ _ _) (by omega))⟩, by simp [intOf]; omega⟩
                  case neg =>
                   as_aux_lemma =>
                    have hy : more.getD k 0 = 0 := by rw [List.getD_eq_getElem?_getD, List.getElem?_eq_none (by omega)]; rfl
                    generalize prev.getD k 0 = X at *
                    generalize more.getD k 0 = Y at *
                    rw [tab_skip (e9.trans hy)] at ou
                    have HGZ := Lib.hid hg
                    have E8 := Lib.hid e8
                    have E9 := Lib.hid e9
                    clear hg i1 e8 e9 hy
                    go_wp2_with fail
                    generalize wr = wz at *
                    have u1 := gb_cell HGZ.out u1 (by simp)
                    have u3 := ou.out.cell (i := k) (by rw [tab_length]; exact hlt)
                    rw [tab_getD, if_pos ⟨hlt, by omega⟩, E9.out] at u3
                    have c4 := op.out.cell (i := k) (by rw [tab_length]; exact hlt)
                    have f4 := op.out.free k
                    generalize (tab prev.length k F1).getD k 0 = Z at *
                    have q0 : IntKind.i64.wrap (X + Y) = X + Y := IntWalk.i64_in _ (by omega)
                    have hgd := gb_drew wz none
                    go_still_tail 12, (by kernel_rfl)
                    change wpList _ _ _ _ _ wz.drew
                    go_wp2_with fail
                    have op2 := (op.out.more hgd).set k (X + Y)
                    rw [← E8.out, tab_set, E8.out] at op2
                    exact ⟨⟨k + 1, by omega, by go_num, gb_new (gb_trans HGZ.out hgd) (gb_set _ _ _ _) e2, Lib.hid op2, Lib.hid ((ou.out.more hgd).other (gb_set _ _ _ _) (by omega)), Lib.hid ((oq.out.more hgd).other (gb_set _ _ _ _) (by omega)), Lib.hid ((ov.out.more hgd).other (gb_set _ _ _ _) (by omega))⟩, by simp [intOf]; omega⟩
                · as_aux_lemma =>
                  obtain rfl : k = prev.length := by omega
                  go_wp2_with fail
                  obtain ⟨wl, rfl⟩ : ∃ W : World, W = wr := ⟨_, rfl⟩
                  go_loopw [113] (fun iv wr => ∃ k : Nat, k ≤ src.length ∧ iv = .int .i64 k ∧ w3.grownBy wr none ∧ Hid (OwnZ wr gq (tab src.length k F2)) ∧ Hid (OwnZ wr gv (tab src.length k F)) ∧ Hid (OwnZ wr gp (tab prev.length prev.length F1)) ∧ Hid (OwnZ wr gu (tab prev.length prev.length F))) (fun iv _ => (src.length - intOf iv).toNat)
                  case atStart => exact ⟨0, by omega, rfl, hg, oq, ov, op, ou⟩
                  case round =>
                   as_aux_lemma =>
                    clear hg op ou oq ov
                    obtain ⟨k, hk, rfl, hg, op, ou, oq, ov⟩ := hrel
                    by_cases hlt : k < src.length
                    · as_aux_lemma =>
                      obtain ⟨bp, o1, rfl, i1, u1⟩ := (HS.out.more HG2.out).at hlt
                      have b1 := lt_of_cell u1
                      have e8 : F2 k = src.getD k 0 + more.getD k 0 := by rw [HF2.out]
                      have e9 : F k = more.getD k 0 := by rw [HF.out]
                      have q1 := onG_iff.1 (all_getD HO2.out k)
                      have q2 := onG_iff.1 (all_getD HO3.out k)
                      by_cases hmk : k < more.length
                      case pos =>
                       as_aux_lemma =>
                        obtain ⟨bm, o2, rfl, i2, u2⟩ := (HM.out.more HG2.out).at hmk
                        have u2 := gb_cell hg u2 (by simp)
                        generalize src.getD k 0 = X at *
                        generalize more.getD k 0 = Y at *
                        have c3 := ou.out.cell (i := k) (by rw [tab_length]; exact hlt)
                        have f3 := ou.out.free k
                        generalize (tab src.length k F).getD k 0 = Z at *
                        have hgz := gb_new hg (gb_set wr gv k (.int .i64 Y)) e6
                        have ou := Lib.hid (ou.out.set k Y)
                        rw [← e9, tab_set, e9] at ou
                        have op := Lib.hid (op.out.other (gb_set wr gv k (.int .i64 Y)) (by omega))
                        have oq := Lib.hid (oq.out.other (gb_set wr gv k (.int .i64 Y)) (by omega))
                        have ov := Lib.hid (ov.out.other (gb_set wr gv k (.int .i64 Y)) (by omega))
                        have HGZ := Lib.hid hgz
                        have E8 := Lib.hid e8
                        have E9 := Lib.hid e9
                        clear hg i1 i2 hgz e8 e9
                        go_wp2_with fail
                        generalize wr.setCell ⟨gv, k, none⟩ (.int .i64 Y) = wz at *
                        clear c3 f3 u2
                        have u1 := gb_cell HGZ.out u1 (by simp)
                        have u3 := ou.out.cell (i := k) (by rw [tab_length]; exact hlt)
                        rw [tab_getD, if_pos ⟨hlt, by omega⟩, E9.out] at u3
                        have c4 := op.out.cell (i := k) (by rw [tab_length]; exact hlt)
                        have f4 := op.out.free k
                        generalize (tab src.length k F2).getD k 0 = Z at *
                        have q0 : IntKind.i64.wrap (X + Y) = X + Y := IntWalk.i64_in _ (by omega)
                        have hgd := gb_drew wz none
                        go_still_tail 12, (by kernel_rfl)
                        change wpList _ _ _ _ _ wz.drew
                        go_wp2_with fail
                        have op2 := (op.out.more hgd).set k (X + Y)
                        rw [← E8.out, tab_set, E8.out] at op2
                        exact ⟨⟨k + 1, by omega, by go_num, gb_new (gb_trans HGZ.out hgd) (gb_set _ _ _ _) e3, Lib.hid op2, Lib.hid ((ou.out.more hgd).other (gb_set _ _ _ _) (by omega)), Lib.hid ((oq.out.more hgd).other (gb_set _ _ _ _) (by omega)), Lib.hid ((ov.out.more hgd).other (gb_set _ _ _ _) (by omega))⟩, by simp [intOf]; omega⟩
                      case neg =>
                       as_aux_lemma =>
                        have hy : more.getD k 0 = 0 := by rw [List.getD_eq_getElem?_getD, List.getElem?_eq_none (by omega)]; rfl
                        generalize src.getD k 0 = X at *
                        generalize more.getD k 0 = Y at *
                        rw [tab_skip (e9.trans hy)] at ou
                        have HGZ := Lib.hid hg
                        have E8 := Lib.hid e8
                        have E9 := Lib.hid e9
                        clear hg i1 e8 e9 hy
                        go_wp2_with fail
                        generalize wr = wz at *
                        have u1 := gb_cell HGZ.out u1 (by simp)
                        have u3 := ou.out.cell (i := k) (by rw [tab_length]; exact hlt)
                        rw [tab_getD, if_pos ⟨hlt, by omega⟩, E9.out] at u3
                        have c4 := op.out.cell (i := k) (by rw [tab_length]; exact hlt)
                        have f4 := op.out.free k
                        generalize (tab src.length k F2).getD k 0 = Z at *
                        have q0 : IntKind.i64.wrap (X + Y) = X + Y := IntWalk.i64_in _ (by omega)
                        have hgd := gb_drew wz none
                        go_still_tail 12, (by kernel_rfl)
                        change wpList _ _ _ _ _ wz.drew
                        go_wp2_with fail
                        have op2 := (op.out.more hgd).set k (X + Y)
                        rw [← E8.out, tab_set, E8.out] at op2
                        exact ⟨⟨k + 1, by omega, by go_num, gb_new (gb_trans HGZ.out hgd) (gb_set _ _ _ _) e3, Lib.hid op2, Lib.hid ((ou.out.more hgd).other (gb_set _ _ _ _) (by omega)), Lib.hid ((oq.out.more hgd).other (gb_set _ _ _ _) (by omega)), Lib.hid ((ov.out.more hgd).other (gb_set _ _ _ _) (by omega))⟩, by simp [intOf]; omega⟩
                    · as_aux_lemma =>
                      obtain rfl : k = src.length := by omega
                      have h48 := (sys_ok H0.out).1
                      have hn := HN.out
                      have HG3 := Lib.hid (gb_trans HG2.out hg)
                      have HGwr := Lib.hid hg
                      have ip : IntRow wr (.slice (some ⟨gp, 0, none⟩) prev.length prev.length) (tab prev.length prev.length F1) := by
                        have := oq.out.row (by rw [tab_length]; omega) (fun x hx => by
                          rcases tab_mem hx with rfl | ⟨i, _, _, rfl⟩
                          · decide
                          · have q1 := onG_iff.1 (all_getD HO1.out i)
                            have q2 := onG_iff.1 (all_getD HO3.out i)
                            rw [HF1.out]; exact ⟨by simp only []; omega, by simp only []; omega⟩)
                        rwa [tab_length] at this
                      have iq : IntRow wr (.slice (some ⟨gq, 0, none⟩) src.length src.length) (tab src.length src.length F2) := by
                        have := op.out.row (by rw [tab_length]; omega) (fun x hx => by
                          rcases tab_mem hx with rfl | ⟨i, _, _, rfl⟩
                          · decide
                          · have q1 := onG_iff.1 (all_getD HO2.out i)
                            have q2 := onG_iff.1 (all_getD HO3.out i)
                            rw [HF2.out]; exact ⟨by simp only []; omega, by simp only []; omega⟩)
                        rwa [tab_length] at this
                      have hu : ∀ n, (tab n n F).all onG = true := fun n => List.all_eq_true.2 (fun x hx => by
                        rcases tab_mem hx with rfl | ⟨i, _, _, rfl⟩
                        · rfl
                        · rw [HF.out]; exact all_getD HO3.out i)
                      have iu : IntRow wr (.slice (some ⟨gu, 0, none⟩) prev.length prev.length) (tab prev.length prev.length F) := by
                        have := ov.out.row (by rw [tab_length]; omega) (fun x hx => by
                          have := onG_iff.1 (List.all_eq_true.1 (hu _) x hx); exact ⟨by omega, by omega⟩)
                        rwa [tab_length] at this
                      have iv : IntRow wr (.slice (some ⟨gv, 0, none⟩) src.length src.length) (tab src.length src.length F) := by
                        have := ou.out.row (by rw [tab_length]; omega) (fun x hx => by
                          have := onG_iff.1 (List.all_eq_true.1 (hu _) x hx); exact ⟨by omega, by omega⟩)
                        rwa [tab_length] at this
                      have HIP := Lib.hid ip
                      have HIQ := Lib.hid iq
                      have HIU := Lib.hid iu
                      have HIV := Lib.hid iv
                      have HU := Lib.hid hu
                      clear ip iq iu iv hu hg op ou oq ov hn
                      go_wp2_with fail
                      refine (ROnGrid_calls wr _ (tab prev.length prev.length F1) HIP.out).mono ?_
                      rintro e wz ⟨rfl, rfl⟩
                      by_cases ho : ((tab prev.length prev.length F1)).all onG = true
                      case neg =>
                       as_aux_lemma =>
                        rw [Bool.eq_false_iff.2 ho]
                        have HO := Lib.hid ho
                        clear ho
                        go_wp2_with fail
                        go_ret
                        exact ⟨rfl, gb_trans HGW.out HG3.out⟩
                      rw [ho]
                      have HO4 := Lib.hid ho
                      clear ho
                      go_wp2_with fail
                      refine (ROnGrid_calls wr _ (tab src.length src.length F2) HIQ.out).mono ?_
                      rintro e wz ⟨rfl, rfl⟩
                      by_cases ho : ((tab src.length src.length F2)).all onG = true
                      case neg =>
                       as_aux_lemma =>
                        rw [Bool.eq_false_iff.2 ho]
                        have HO := Lib.hid ho
                        clear ho
                        go_wp2_with fail
                        go_ret
                        exact ⟨rfl, gb_trans HGW.out HG3.out⟩
                      rw [ho]
                      have HO5 := Lib.hid ho
                      clear ho
                      have hP : ∀ i, prev.getD i 0 + (tab prev.length prev.length F).getD i 0 = (tab prev.length prev.length F1).getD i 0 + (List.replicate prev.length 0).getD i 0 := by rw [HF.out, HF1.out]; exact add_tab
                      have hQ : ∀ i, src.getD i 0 + (tab src.length src.length F).getD i 0 = (tab src.length src.length F2).getD i 0 + (List.replicate src.length 0).getD i 0 := by rw [HF.out, HF2.out]; exact add_tab
                      have hE := adds_E (p2 := tab prev.length prev.length F) (p3 := tab prev.length prev.length F1) (p4 := List.replicate prev.length 0) (s2 := tab src.length src.length F) (s3 := tab src.length src.length F2) (s4 := List.replicate src.length 0) H0.out HN.out (by rw [tab_length]; exact HN.out) (by rw [tab_length]; exact HN.out) (by simpa using HN.out) (tab_length _ _ _) (tab_length _ _ _) (by simp) HO1.out (HU.out _) HO4.out (zeros_onG _) HO2.out (HU.out _) HO5.out (zeros_onG _)
                      have HPP := Lib.hid hP
                      have HQQ := Lib.hid hQ
                      have HE := Lib.hid hE
                      have hmk1 := make_i64 (P := Tryz.prog) 59 2 Tryz.underlying59 int64info prev.length (by have := HN.out; omega) (prev.length : Int) rfl
                      have hmk2 := make_i64 (P := Tryz.prog) 59 2 Tryz.underlying59 int64info src.length (by omega) (src.length : Int) rfl
                      simp only [zeros_i64s] at hmk1 hmk2
                      generalize tab prev.length prev.length F1 = P3 at *
                      generalize tab prev.length prev.length F = P2 at *
                      generalize tab src.length src.length F2 = S3 at *
                      generalize tab src.length src.length F = S2 at *
                      have c0 := (HB.out.more HG3.out).cell 0
                      clear hP hQ hE
                      go_wp2_with fail
                      refine (Rhs_calls wr _ _ _ l prev src ((HL.out.more HG2.out).more HGwr.out) ((HP.out.more HG2.out).more HGwr.out) ((HS.out.more HG2.out).more HGwr.out)).mono ?_
                      rintro e w4 ⟨A1, c1, rfl, hz1, hgn⟩
                      have HZ1 := Lib.hid hz1
                      have HGw4 := Lib.hid (gb_trans HGwr.out hgn)
                      clear hz1 c0
                      have c0 := (HB.out.more (gb_trans HG2.out HGw4.out)).cell 0
                      have HIP := Lib.hid (HIP.out.more hgn)
                      have HIQ := Lib.hid (HIQ.out.more hgn)
                      have HIU := Lib.hid (HIU.out.more hgn)
                      have HIV := Lib.hid (HIV.out.more hgn)
                      clear hgn
                      go_wp2_with fail
                      refine (Rhs_calls w4 _ _ _ l P2 S2 ((HL.out.more HG2.out).more HGw4.out) HIU.out HIV.out).mono ?_
                      rintro e w5 ⟨A2, c2, rfl, hz2, hgn⟩
                      have HZ2 := Lib.hid hz2
                      have HGw5 := Lib.hid (gb_trans HGw4.out hgn)
                      clear hz2 c0
                      have c0 := (HB.out.more (gb_trans HG2.out HGw5.out)).cell 0
                      have HIP := Lib.hid (HIP.out.more hgn)
                      have HIQ := Lib.hid (HIQ.out.more hgn)
                      have HZ1 := Lib.hid (HZ1.out.more hgn)
                      clear hgn HIU HIV
                      go_wp2_with fail
                      refine (Rhs_calls w5 _ _ _ l P3 S3 ((HL.out.more HG2.out).more HGw5.out) HIP.out HIQ.out).mono ?_
                      rintro e w6 ⟨A3, c3, rfl, hz3, hgn⟩
                      have HZ3 := Lib.hid hz3
                      have HGw6 := Lib.hid (gb_trans HGw5.out hgn)
                      clear hz3 c0
                      have c0 := (HB.out.more (gb_trans HG2.out HGw6.out)).cell 0
                      have HZ1 := Lib.hid (HZ1.out.more hgn)
                      have HZ2 := Lib.hid (HZ2.out.more hgn)
                      clear hgn HIP HIQ
                      go_upto_region 27 with (fail)
                      go_cut [20, 21] (fun z h wx => ∃ A c, z = .slice A (rhsV l (List.replicate prev.length 0) (List.replicate src.length 0)).length c ∧ h = .int .i64 (rhsE l (List.replicate prev.length 0) (List.replicate src.length 0)) ∧ Hid (ZRow wx (.slice A (rhsV l (List.replicate prev.length 0) (List.replicate src.length 0)).length c) (rhsV l (List.replicate prev.length 0) (List.replicate src.length 0))) ∧ w6.grownBy wx none)
                      case first =>
                       as_aux_lemma =>
                        have hkk : ∀ w', w6.grownBy w' none → w'.cell? ⟨sb, 0, none⟩ = some (.slice A l.length c) := fun w' h => gb_cell h c0 (by simp)
                        have HKK := Lib.hid hkk
                        have h48 : prev.length ≤ 48 := by rw [HN.out]; exact (sys_ok H0.out).1
                        clear hkk
                        go_region_held3 (fun w' => w'.cell? ⟨sb, 0, none⟩ = some (.slice A l.length c)) ((refine HKK.out _ ?_; (focus ((repeat (first | assumption | exact gb_refl _ _ | exact gb_drew _ _ | exact gb_alloc _ _ _ | refine gb_trans ?_ (gb_alloc _ _ _) | refine gb_trans ?_ (gb_drew _ _) | refine gb_trans ?_ (by assumption))); done)))) (first
                          | (go_at_call 21; refine (Rhs_calls _ _ _ _ l (List.replicate prev.length 0) (List.replicate src.length 0) ((HL.out.more (gb_trans HG2.out HGw6.out)).more (by (focus ((repeat (first | assumption | exact gb_refl _ _ | exact gb_drew _ _ | exact gb_alloc _ _ _ | refine gb_trans ?_ (gb_alloc _ _ _) | refine gb_trans ?_ (gb_drew _ _) | refine gb_trans ?_ (by assumption))); done)))) (by first | exact zeros_old _ _ _ _ (by omega) | exact zeros_new _ _ _ _ (by omega)) (by first | exact zeros_old _ _ _ _ (by omega) | exact zeros_new _ _ _ _ (by omega))).mono ?_; rintro e w7 ⟨A4, c4, rfl, hz4, hg7⟩)
                          | (fail))
                        all_goals
                          go_wp2_with fail
                          go_meet
                          exact ⟨_, _, rfl, rfl, Lib.hid hz4, by (focus ((repeat (first | assumption | exact gb_refl _ _ | exact gb_drew _ _ | exact gb_alloc _ _ _ | refine gb_trans ?_ (gb_alloc _ _ _) | refine gb_trans ?_ (gb_drew _ _) | refine gb_trans ?_ (by assumption))); done))⟩
                      case rest =>
                       as_aux_lemma =>
                        obtain ⟨A4, c4, rfl, rfl, hz4, hg7⟩ := hcut
                        have HZ4 := hz4
                        have HZ1 := Lib.hid (HZ1.out.more hg7)
                        have HZ2 := Lib.hid (HZ2.out.more hg7)
                        have HZ3 := Lib.hid (HZ3.out.more hg7)
                        have HG7 := Lib.hid (gb_trans HG2.out (gb_trans HGw6.out hg7))
                        have R1 := Lib.hid (rhs_ok (l := l) (prev := prev) (src := src))
                        have R2 := Lib.hid (rhs_ok (l := l) (prev := P2) (src := S2))
                        have R3 := Lib.hid (rhs_ok (l := l) (prev := P3) (src := S3))
                        have R4 := Lib.hid (rhs_ok (l := l) (prev := List.replicate prev.length 0) (src := List.replicate src.length 0))
                        clear hz4 hg7 c0 hmk1 hmk2
                        generalize List.replicate prev.length (0 : Int) = P4 at *
                        generalize List.replicate src.length (0 : Int) = S4 at *
                        generalize rhsE l prev src = E1 at *
                        generalize rhsE l P2 S2 = E2 at *
                        generalize rhsE l P3 S3 = E3 at *
                        generalize rhsE l P4 S4 = E4 at *
                        generalize rhsV l prev src = V1 at *
                        generalize rhsV l P2 S2 = V2 at *
                        generalize rhsV l P3 S3 = V3 at *
                        generalize rhsV l P4 S4 = V4 at *
                        rcases HE.out with ⟨rfl, rfl, rfl, rfl⟩ | ⟨h1, h2, h3, h4⟩
                        · as_aux_lemma =>
                          clear HE R1 R2 R3 R4
                          go_wp2_with fail
                          go_ret
                          exact ⟨rfl, gb_trans HGW.out HG7.out⟩
                        · as_aux_lemma =>
                          by_cases hz : E1 = 0 ∧ E2 = 0 ∧ E3 = 0 ∧ E4 = 0
                          case neg =>
                           as_aux_lemma =>
                            clear HE R1 R2 R3 R4
                            rcases h1 with rfl | rfl <;> rcases h2 with rfl | rfl <;> rcases h3 with rfl | rfl <;> rcases h4 with rfl | rfl
                            all_goals first
                              | exact absurd ⟨rfl, rfl, rfl, rfl⟩ hz
                              | (clear hz
                                 go_wp2_with fail
                                 go_ret
                                 exact ⟨rfl, gb_trans HGW.out HG7.out⟩)
                          case pos =>
                           as_aux_lemma =>
                            obtain ⟨rfl, rfl, rfl, rfl⟩ := hz
                            clear h1 h2 h3 h4 HE
                            obtain ⟨rfl, q1⟩ := R1.out rfl
                            obtain ⟨rfl, q2⟩ := R2.out rfl
                            obtain ⟨rfl, q3⟩ := R3.out rfl
                            obtain ⟨rfl, q4⟩ := R4.out rfl
                            have HQ : Hid (∀ k, k < l.length → (sides l prev src).getD k 0 + (sides l P2 S2).getD k 0 = (sides l P3 S3).getD k 0 + (sides l P4 S4).getD k 0) := Lib.hid (fun k hk => by
                              rw [sides_getD _ _ _ hk, sides_getD _ _ _ hk, sides_getD _ _ _ hk, sides_getD _ _ _ hk]
                              exact sideZ_add HPP.out HQQ.out)
                            have v1 := sides_length l prev src
                            have v2 := sides_length l P2 S2
                            have v3 := sides_length l P3 S3
                            have v4 := sides_length l P4 S4
                            clear R1 R2 R3 R4
                            have Q1 := Lib.hid q1
                            have Q2 := Lib.hid q2
                            have Q3 := Lib.hid q3
                            have Q4 := Lib.hid q4
                            clear q1 q2 q3 q4
                            generalize sides l prev src = V1 at *
                            generalize sides l P2 S2 = V2 at *
                            generalize sides l P3 S3 = V3 at *
                            generalize sides l P4 S4 = V4 at *
                            simp only [v1, v2, v3, v4] at HZ1 HZ2 HZ3 HZ4 ⊢
                            have VL := Lib.hid (And.intro v1 (And.intro v2 (And.intro v3 v4)))
                            clear v1 v2 v3 v4
                            go_wp2_with fail
                            obtain ⟨w7, rfl⟩ : ∃ W : World, W = wc := ⟨_, rfl⟩
                            go_loopw [226] (fun iv wr => ∃ k : Nat, k ≤ l.length ∧ iv = .int .i64 k ∧ w7.grownBy wr none) (fun iv _ => (l.length - intOf iv).toNat)
                            case atStart => exact ⟨0, by omega, rfl, gb_refl _ _⟩
                            case round =>
                             as_aux_lemma =>
                              obtain ⟨k, hk, rfl, hg⟩ := hrel
                              have HGR := Lib.hid hg
                              by_cases hlt : k < l.length
                              case neg =>
                               as_aux_lemma =>
                                obtain rfl : k = l.length := by omega
                                have c0 := (HB.out.more (gb_trans HG7.out hg)).cell 0
                                clear hg
                                go_wp2_with fail
                                go_ret
                                exact ⟨rfl, gb_trans HGW.out (gb_trans HG7.out HGR.out)⟩
                              case pos =>
                               as_aux_lemma =>
                                obtain ⟨v1, v2, v3, v4⟩ := VL.out
                                have hq := HQ.out k hlt
                                have k1 := Q1.out k hlt
                                have k2 := Q2.out k hlt
                                have k3 := Q3.out k hlt
                                have k4 := Q4.out k hlt
                                obtain ⟨b1, A1', n1, c1', rfl, x1, y1, N1⟩ := (HZ1.out.more hg).at (i := k) (by rw [v1]; exact hlt)
                                have N1 := Lib.hid N1
                                obtain ⟨b2, A2', n2, c2', rfl, x2, y2, N2⟩ := (HZ2.out.more hg).at (i := k) (by rw [v2]; exact hlt)
                                have N2 := Lib.hid N2
                                obtain ⟨b3, A3', n3, c3', rfl, x3, y3, N3⟩ := (HZ3.out.more hg).at (i := k) (by rw [v3]; exact hlt)
                                have N3 := Lib.hid N3
                                obtain ⟨b4, A4', n4, c4', rfl, x4, y4, N4⟩ := (HZ4.out.more hg).at (i := k) (by rw [v4]; exact hlt)
                                have N4 := Lib.hid N4
                                generalize V1.getD k 0 = X1 at *
                                generalize V2.getD k 0 = X2 at *
                                generalize V3.getD k 0 = X3 at *
                                generalize V4.getD k 0 = X4 at *
                                have K1 := Lib.hid k1
                                have K2 := Lib.hid k2
                                have K3 := Lib.hid k3
                                have K4 := Lib.hid k4
                                have HXX := Lib.hid hq
                                have HLT := Lib.hid hlt
                                clear k1 k2 k3 k4 hq v1 v2 v3 v4 VL HQ Q1 Q2 Q3 Q4 HZ1 HZ2 HZ3 HZ4 HPP HQQ HU hg
                                go_upto_region 33 with (fail)
                                go_cut [23, 24] (fun p j wx => ∃ bm Am nm cm, p = .pointer (some ⟨bm, 0, none⟩) ∧ j = .int .i64 (ansE (X1 + X2)) ∧ wr.grownBy wx none ∧ Hid (Blk wx bm #[.bool (decide (ans (X1 + X2) < 0)), .slice Am nm cm] ∧ Nums wx (.slice Am nm cm) (digs (ans (X1 + X2)))))
                                case first =>
                                 as_aux_lemma =>
                                  have hkk : ∀ w', wr.grownBy w' none → w'.cell? ⟨b1, k * 2, none⟩ = some (.bool (decide (X1 < 0))) ∧ w'.cell? ⟨b1, k * 2 + 1, none⟩ = some (.slice A1' n1 c1') ∧ w'.cell? ⟨b2, k * 2, none⟩ = some (.bool (decide (X2 < 0))) ∧ w'.cell? ⟨b2, k * 2 + 1, none⟩ = some (.slice A2' n2 c2') := fun w' h => ⟨gb_cell h x1 (by simp), gb_cell h y1 (by simp), gb_cell h x2 (by simp), gb_cell h y2 (by simp)⟩
                                  have HKK := Lib.hid hkk
                                  have ne5 := new_ne x1
                                  have ne6 := new_ne x2
                                  have ne7 := (new_ne x1).symm
                                  have ne8 := (new_ne x2).symm
                                  clear hkk
                                  go_region_held3 (fun w' => w'.cell? ⟨b1, k * 2, none⟩ = some (.bool (decide (X1 < 0))) ∧ w'.cell? ⟨b1, k * 2 + 1, none⟩ = some (.slice A1' n1 c1') ∧ w'.cell? ⟨b2, k * 2, none⟩ = some (.bool (decide (X2 < 0))) ∧ w'.cell? ⟨b2, k * 2 + 1, none⟩ = some (.slice A2' n2 c2')) (first | go_keep | exact HKK.out _ (by (focus ((repeat (first | assumption | exact gb_refl _ _ | exact gb_drew _ _ | exact gb_alloc _ _ _ | refine gb_trans ?_ (gb_alloc _ _ _) | refine gb_trans ?_ (gb_drew _ _) | refine gb_trans ?_ (by assumption))); done)))) (first
                                    | (go_at_call 38; refine (LAddZ_new wr _ _ X1 X2 _ _ (N1.out.more (by (focus ((repeat (first | assumption | exact gb_refl _ _ | exact gb_drew _ _ | exact gb_alloc _ _ _ | refine gb_trans ?_ (gb_alloc _ _ _) | refine gb_trans ?_ (gb_drew _ _) | refine gb_trans ?_ (by assumption))); done)))) (N2.out.more (by (focus ((repeat (first | assumption | exact gb_refl _ _ | exact gb_drew _ _ | exact gb_alloc _ _ _ | refine gb_trans ?_ (gb_alloc _ _ _) | refine gb_trans ?_ (gb_drew _ _) | refine gb_trans ?_ (by assumption))); done)))) K1.out K2.out).mono ?_; rintro e w9 ⟨s9, rfl, hn9, hf9, hb9, hg9⟩; obtain ⟨A9, n9, c9, rfl⟩ := hn9.ctor; obtain ⟨d0, d1, f0, f1⟩ := hb9.two; have z1 := lt_of_cell x1; have z2 := lt_of_cell x2)
                                    | (go_at_call 38; refine (LAddZ_calls _ X1 X2 _ _ (N1.out.more (by (focus ((repeat (first | assumption | exact gb_refl _ _ | exact gb_drew _ _ | exact gb_alloc _ _ _ | refine gb_trans ?_ (gb_alloc _ _ _) | refine gb_trans ?_ (gb_drew _ _) | refine gb_trans ?_ (by assumption))); done)))) (N2.out.more (by (focus ((repeat (first | assumption | exact gb_refl _ _ | exact gb_drew _ _ | exact gb_alloc _ _ _ | refine gb_trans ?_ (gb_alloc _ _ _) | refine gb_trans ?_ (gb_drew _ _) | refine gb_trans ?_ (by assumption))); done)))) K1.out K2.out).mono ?_; rintro e w9 ⟨s9, rfl, hn9, hf9, hg9⟩; obtain ⟨A9, n9, c9, rfl⟩ := hn9.ctor; have z1 := lt_of_cell x1; have z2 := lt_of_cell x2; have z0 := (show wr.grownBy w9 none by (focus ((repeat (first | assumption | exact gb_refl _ _ | exact gb_drew _ _ | exact gb_alloc _ _ _ | refine gb_trans ?_ (gb_alloc _ _ _) | refine gb_trans ?_ (gb_drew _ _) | refine gb_trans ?_ (by assumption))); done))).size)
                                    | (fail))
                                  all_goals
                                    go_wp2_with fail
                                    go_meet
                                    first
                                    | exact ⟨_, _, _, _, rfl, rfl, by (focus ((repeat (first | assumption | exact gb_refl _ _ | exact gb_drew _ _ | exact gb_alloc _ _ _ | refine gb_trans ?_ (gb_alloc _ _ _) | refine gb_trans ?_ (gb_drew _ _) | refine gb_trans ?_ (by assumption))); done)), Lib.hid ⟨Blk.new _ _ _, hn9.more (gb_alloc _ _ _)⟩⟩
                                    | exact ⟨_, _, _, _, rfl, rfl, gb_new hg9 (gb_trans (gb_set _ _ _ _) (gb_set _ _ _ _)) (Nat.le_refl _), Lib.hid ⟨(hb9.set 0 _).set 1 _, hn9.apart (gb_trans (gb_set _ _ _ _) (gb_set _ _ _ _)) hf9⟩⟩
                                case rest =>
                                 as_aux_lemma =>
                                  obtain ⟨bm, A11, n11, c11, rfl, rfl, hg8, hm8⟩ := hcut
                                  obtain ⟨w8, rfl⟩ : ∃ W : World, W = wc := ⟨_, rfl⟩
                                  have x3 := gb_cell hg8 x3 (by simp)
                                  have y3 := gb_cell hg8 y3 (by simp)
                                  have x4 := gb_cell hg8 x4 (by simp)
                                  have y4 := gb_cell hg8 y4 (by simp)
                                  have N3 := Lib.hid (N3.out.more hg8)
                                  have N4 := Lib.hid (N4.out.more hg8)
                                  have HG8 := Lib.hid (gb_trans HGR.out hg8)
                                  clear x1 y1 x2 y2 N1 N2 hg8 K1 K2
                                  go_upto_region 34 with (fail)
                                  go_cut [25, 26] (fun p j wx => ∃ bm Am nm cm, p = .pointer (some ⟨bm, 0, none⟩) ∧ j = .int .i64 (ansE (X3 + X4)) ∧ w8.grownBy wx none ∧ Hid (Blk wx bm #[.bool (decide (ans (X3 + X4) < 0)), .slice Am nm cm] ∧ Nums wx (.slice Am nm cm) (digs (ans (X3 + X4)))))
                                  case first =>
                                   as_aux_lemma =>
                                    have hkk : ∀ w', w8.grownBy w' none → w'.cell? ⟨b3, k * 2, none⟩ = some (.bool (decide (X3 < 0))) ∧ w'.cell? ⟨b3, k * 2 + 1, none⟩ = some (.slice A3' n3 c3') ∧ w'.cell? ⟨b4, k * 2, none⟩ = some (.bool (decide (X4 < 0))) ∧ w'.cell? ⟨b4, k * 2 + 1, none⟩ = some (.slice A4' n4 c4') := fun w' h => ⟨gb_cell h x3 (by simp), gb_cell h y3 (by simp), gb_cell h x4 (by simp), gb_cell h y4 (by simp)⟩
                                    have HKK := Lib.hid hkk
                                    have ne5 := new_ne x3
                                    have ne6 := new_ne x4
                                    have ne7 := (new_ne x3).symm
                                    have ne8 := (new_ne x4).symm
                                    clear hkk
                                    go_region_held3 (fun w' => w'.cell? ⟨b3, k * 2, none⟩ = some (.bool (decide (X3 < 0))) ∧ w'.cell? ⟨b3, k * 2 + 1, none⟩ = some (.slice A3' n3 c3') ∧ w'.cell? ⟨b4, k * 2, none⟩ = some (.bool (decide (X4 < 0))) ∧ w'.cell? ⟨b4, k * 2 + 1, none⟩ = some (.slice A4' n4 c4')) (first | go_keep | exact HKK.out _ (by (focus ((repeat (first | assumption | exact gb_refl _ _ | exact gb_drew _ _ | exact gb_alloc _ _ _ | refine gb_trans ?_ (gb_alloc _ _ _) | refine gb_trans ?_ (gb_drew _ _) | refine gb_trans ?_ (by assumption))); done)))) (first
                                      | (go_at_call 38; refine (LAddZ_new w8 _ _ X3 X4 _ _ (N3.out.more (by (focus ((repeat (first | assumption | exact gb_refl _ _ | exact gb_drew _ _ | exact gb_alloc _ _ _ | refine gb_trans ?_ (gb_alloc _ _ _) | refine gb_trans ?_ (gb_drew _ _) | refine gb_trans ?_ (by assumption))); done)))) (N4.out.more (by (focus ((repeat (first | assumption | exact gb_refl _ _ | exact gb_drew _ _ | exact gb_alloc _ _ _ | refine gb_trans ?_ (gb_alloc _ _ _) | refine gb_trans ?_ (gb_drew _ _) | refine gb_trans ?_ (by assumption))); done)))) K3.out K4.out).mono ?_; rintro e w9 ⟨s9, rfl, hn9, hf9, hb9, hg9⟩; obtain ⟨A9, n9, c9, rfl⟩ := hn9.ctor; obtain ⟨d0, d1, f0, f1⟩ := hb9.two; have z1 := lt_of_cell x3; have z2 := lt_of_cell x4)
                                      | (go_at_call 38; refine (LAddZ_calls _ X3 X4 _ _ (N3.out.more (by (focus ((repeat (first | assumption | exact gb_refl _ _ | exact gb_drew _ _ | exact gb_alloc _ _ _ | refine gb_trans ?_ (gb_alloc _ _ _) | refine gb_trans ?_ (gb_drew _ _) | refine gb_trans ?_ (by assumption))); done)))) (N4.out.more (by (focus ((repeat (first | assumption | exact gb_refl _ _ | exact gb_drew _ _ | exact gb_alloc _ _ _ | refine gb_trans ?_ (gb_alloc _ _ _) | refine gb_trans ?_ (gb_drew _ _) | refine gb_trans ?_ (by assumption))); done)))) K3.out K4.out).mono ?_; rintro e w9 ⟨s9, rfl, hn9, hf9, hg9⟩; obtain ⟨A9, n9, c9, rfl⟩ := hn9.ctor; have z1 := lt_of_cell x3; have z2 := lt_of_cell x4; have z0 := (show w8.grownBy w9 none by (focus ((repeat (first | assumption | exact gb_refl _ _ | exact gb_drew _ _ | exact gb_alloc _ _ _ | refine gb_trans ?_ (gb_alloc _ _ _) | refine gb_trans ?_ (gb_drew _ _) | refine gb_trans ?_ (by assumption))); done))).size)
                                      | (fail))
                                    all_goals
                                      go_wp2_with fail
                                      go_meet
                                      first
                                      | exact ⟨_, _, _, _, rfl, rfl, by (focus ((repeat (first | assumption | exact gb_refl _ _ | exact gb_drew _ _ | exact gb_alloc _ _ _ | refine gb_trans ?_ (gb_alloc _ _ _) | refine gb_trans ?_ (gb_drew _ _) | refine gb_trans ?_ (by assumption))); done)), Lib.hid ⟨Blk.new _ _ _, hn9.more (gb_alloc _ _ _)⟩⟩
                                      | exact ⟨_, _, _, _, rfl, rfl, gb_new hg9 (gb_trans (gb_set _ _ _ _) (gb_set _ _ _ _)) (Nat.le_refl _), Lib.hid ⟨(hb9.set 0 _).set 1 _, hn9.apart (gb_trans (gb_set _ _ _ _) (gb_set _ _ _ _)) hf9⟩⟩
                                  case rest =>
                                   as_aux_lemma =>
                                    obtain ⟨bn, A12, n12, c12, rfl, rfl, hg9, hm9⟩ := hcut
                                    clear x3 y3 x4 y4 N3 N4
                                    rw [← HXX.out] at hm9 ⊢
                                    have hb8 := hm8.out.1.more hg9
                                    have hn8 := hm8.out.2.more hg9
                                    obtain ⟨hb9, hn9⟩ := hm9.out
                                    have HG9 := Lib.hid (gb_trans HG8.out hg9)
                                    have m0 := hb8.cell 0
                                    have m1 := hb8.cell 1
                                    have m2 := hb9.cell 0
                                    have m3 := hb9.cell 1
                                    have HS := Lib.hid (same_calls wc (decide (ans (X1 + X2) < 0)) _ _ _ hn8 hn9)
                                    clear hm8 hm9 hb8 hn8 hb9 hn9 hg9
                                    generalize decide (ans (X1 + X2) < 0) = neg at *
                                    by_cases hw : lim (X1 + X2) ≤ 72
                                    · as_aux_lemma =>
                                      have hj : ansE (X1 + X2) = 0 := if_pos hw
                                      rw [hj]
                                      clear hj hw
                                      go_wp2_with fail
                                      refine HS.out.mono ?_
                                      rintro e w10 ⟨rfl, hg10⟩
                                      have HG10 := Lib.hid (gb_trans HG9.out hg10)
                                      clear hg10
                                      go_wp2_with fail
                                      exact ⟨⟨k + 1, by have := HLT.out; omega, by go_num, HG10.out⟩, by have := HLT.out; simp [intOf]; omega⟩
                                    · as_aux_lemma =>
                                      have hj : ansE (X1 + X2) = 13 := if_neg hw
                                      rw [hj]
                                      clear hj hw
                                      go_wp2_with fail
                                      exact ⟨⟨k + 1, by have := HLT.out; omega, by go_num, HG9.out⟩, by have := HLT.out; simp [intOf]; omega⟩
end Go.Proofs.YtmfmfpmkgmkgiaaGreatDoor
