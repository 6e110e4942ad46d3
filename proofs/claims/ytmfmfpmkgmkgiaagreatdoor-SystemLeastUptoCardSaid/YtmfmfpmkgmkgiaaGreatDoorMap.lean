/- Contracts of the program's functions, and what they rest on: RefD RefF RefG RefH. -/
import Derived.Test.YtmfmfpmkgmkgiaaGreatDoorMan
import Derived.Test.YtmfmfpmkgmkgiaaGreatDoorMao
set_option linter.unusedVariables false
set_option linter.unusedSimpArgs false
namespace Go.Proofs.YtmfmfpmkgmkgiaaGreatDoor
open Go.RowKit Go.Maps
open Rat

theorem run_app_qm {P : Program} {w : World} (base : Nat) (t ty e : TypeId) (i : TypeInfo) (z : Value) (size bytes m : Nat) (hm : 0 < m) (ht : P.underlying t = some (.slice e)) (hi : P.info? e = some i) (hz : i.zero = some z)
    (hsize : i.size = size) (hby : i.bytes = bytes) (hzs : z.cells.size = size) (hsz : 0 < size)
    (v : Value) (n : Nat) (xs : List Value) (hown : OwnQ w base e size v n xs)
    (a : Addr) (news : List Value) (hl : news.length = m * size) (hnews : ∀ j u, news[j]? = some u → w.cell? (a.add j) = some u) (h1 : ∀ u ∈ news, u.oneCell' = true)
    (hbytes : (n + m) * bytes ≤ 140737488355328) (hb0 : 0 < bytes) (hbase : base ≤ w.heap.size) (hnd : NoD news) (hzd : NoD z.cells.toList) :
    ∃ v' w', (Builtin.append_ #[t, t] ty #[v, .slice (some a) m m]).run P w = .ok v' w' ∧ OwnQ w' base e size v' (n + m) (xs ++ news) ∧ w.grownBy w' v.ownBlock ∧ (v'.ownBlock = v.ownBlock ∨ v'.ownBlock = some w.heap.size) := by
  have hlen : n + m ≤ 140737488355328 := Nat.le_trans (Nat.le_mul_of_pos_right _ hb0) hbytes
  obtain ⟨v', w', hr, h2, h3, _, h5⟩ := run_append_own_at (P := P) w base t ty e i z size bytes ht hi hz hsize hby hzs hsz v n xs hown.1 a m m news hl hnews h1 (by simp only [maxLen]; omega) hbytes hbase
  refine ⟨v', w', hr, ⟨h2, ?_⟩, h3, h5⟩
  intro g hg
  subst hsize hby
  rcases hown.1.2 with ⟨rfl, hn0⟩ | ⟨g0, cap, cur, rfl, hbg, hgh, hnc, hcm, hcs, htake⟩
  · have hx : xs = [] := List.eq_nil_of_length_eq_zero (by have := hown.1.1; rw [hn0] at this; simpa using this)
    subst hn0
    have hr' := run_append_nil (P := P) w t ty e i z ht hi hz a m m news hl hnews (by omega) (by omega) (by rw [Nat.zero_add] at hbytes; omega)
    rw [hr] at hr'
    injection hr' with e1 e2
    subst e1 e2
    obtain rfl : w.heap.size = g := by simpa [Value.ownBlock] using hg
    exact plain_of_heap (heap_alloc_new w.drew _) (by simp only [Array.toList_append]; exact hnd.append (hzd.zero _))
  · have hcd := noD_of_plain hgh (hown.2 g0 rfl)
    by_cases hroom : n + m ≤ cap
    · have hfit : n * i.size + news.length ≤ cur.size := by rw [hl, hcs, ← Nat.add_mul]; exact Nat.mul_le_mul_right _ hroom
      have hr' := run_append_room (P := P) w t ty e i ht hi g0 n cap cur hgh a m m news hl hnews h1 hroom hfit
      rw [hr] at hr'
      injection hr' with e1 e2
      subst e1 e2
      obtain rfl : g0 = g := by simpa [Value.ownBlock] using hg
      refine plain_of_heap (setRow_heap w g0 cur _ e _ hgh) ?_
      simp only []
      exact (NoD.append (fun u hu => hcd u (List.mem_of_mem_take hu)) hnd).append (fun u hu => hcd u (List.mem_of_mem_drop hu))
    · have holds : ∀ j u, xs[j]? = some u → w.cell? ((⟨g0, 0, none⟩ : Addr).add j) = some u := hown.1.cells (g := g0) rfl
      have hr' := run_append_grow (P := P) w t ty e i z ht hi hz ⟨g0, 0, none⟩ n cap xs hown.1.1 holds a m m news hl hnews (by omega) (by omega) (growslice_fits (by omega) hbytes)
      rw [hr] at hr'
      injection hr' with e1 e2
      subst e1 e2
      obtain rfl : w.heap.size = g := by simpa [Value.ownBlock] using hg
      refine plain_of_heap (heap_alloc_new w.drew _) ?_
      simp only [Array.toList_append]
      exact (NoD.append (fun u hu => hcd u (by rw [← htake] at hu; exact List.mem_of_mem_take hu)) hnd).append (hzd.zero _)
theorem step_app_qm {P : Program} {w : World} {ops : Array Oper} {o : Oper} {a : Act} {K : Act → World → Prop} {Q : Exit → Act → World → Prop} {E : Prop} (hgd : o.guard = none) (s x : Operand) (t : TypeId)
    (ho : o.op = .call { callee := .builtin .append, args := #[s, x], argTypes := #[t, t] }) (m : Nat) (hm : 0 < m)
    (base : Nat) (e : TypeId) (z : Value) (size bytes : Nat) (ht : P.underlying t = some (.slice e)) (hinfo : (P.info? e).map (fun i => (i.zero, i.size, i.bytes)) = some (some z, size, bytes)) (hzs : z.cells.size = size) (hsz : 0 < size) (hb0 : 0 < bytes)
    (v : Value) (n : Nat) (xs : List Value) (hs : a.eval s = v) (hown : OwnQ w base e size v n xs)
    (B : Nat) (ys : Array Value) (T : TypeId) (fr : Nat × Nat) (hB : w.heap[B]? = some (.cells ys T fr)) (hx : a.eval x = .slice (some ⟨B, 0, none⟩) m m) (hl : ys.toList.length = m * size) (h1 : ∀ u ∈ ys.toList, u.oneCell' = true)
    (hbytes : (n + m) * bytes ≤ 140737488355328) (hbase : base ≤ w.heap.size) (hnd : NoD ys.toList) (hzd : NoD z.cells.toList)
    (h : ∀ g cap w', OwnQ w' base e size (.slice (some ⟨g, 0, none⟩) (n + m) cap) (n + m) (xs ++ ys.toList) → w.grownBy w' v.ownBlock → (v.ownBlock = some g ∨ g = w.heap.size) → K (a.put o.dst (.slice (some ⟨g, 0, none⟩) (n + m) cap)) w') :
    if Region.wanted o (yielded ops a.tmps) = true then Oper.wp P o a w K Q else E := by
  have hw : Region.wanted o (yielded ops a.tmps) = true := by simp [Region.wanted, hgd]
  rw [if_pos hw]
  obtain ⟨i, hi, hzz⟩ := Option.map_eq_some_iff.1 hinfo
  simp only [Prod.mk.injEq] at hzz
  obtain ⟨hz0, hz1, hz2⟩ := hzz
  obtain ⟨v', w', hr, h2, h3, h4⟩ := run_app_qm (P := P) (w := w) base t o.type e i z size bytes m hm ht hi hz0 hz1 hz2 hzs hsz v n xs hown ⟨B, 0, none⟩ ys.toList hl (World.news_of_block hB) h1 hbytes hb0 hbase hnd hzd
  unfold Oper.wp execOp
  simp only [ho, resolve, invoke, builtin, Sem.run_bind, Sem.run_pure, Result.andThen_ok, List.map_toArray, List.map_cons, List.map_nil, hs, hx, hr]
  rcases h2.1.2 with ⟨_, h0⟩ | ⟨g, cap, cur, rfl, _⟩
  · omega
  · refine h g cap w' h2 h3 ?_
    simp only [Value.ownBlock] at h4
    rcases h4 with h4 | h4
    · exact .inl (by simpa [Value.ownBlock] using h4.symm)
    · exact .inr (by simpa using h4)
def halves : List Nat → List Nat
  | [] => []
  | x :: xs => x % 65536 :: x / 65536 :: halves xs
theorem halves_length : ∀ xs, (halves xs).length = xs.length * 2
  | [] => rfl
  | x :: xs => by simp only [halves, List.length_cons, halves_length xs]; omega
theorem halves_val : ∀ xs, val 65536 (halves xs) = val 4294967296 xs
  | [] => rfl
  | x :: xs => by simp only [halves, val, halves_val xs]; have := Nat.mod_add_div x 65536; omega
theorem halves_lt : ∀ {xs : List Nat}, (∀ x ∈ xs, x < 4294967296) → ∀ y ∈ halves xs, y < 65536
  | [], _ => by simp [halves]
  | x :: xs, h => by
    intro y hy
    simp only [halves, List.mem_cons] at hy
    have hx := h x (by simp)
    rcases hy with rfl | rfl | hy
    · exact Nat.mod_lt _ (by omega)
    · omega
    · exact halves_lt (fun x hx => h x (by simp [hx])) y hy
theorem halves_snoc (x : Nat) : ∀ xs, halves (xs ++ [x]) = halves xs ++ [x % 65536, x / 65536]
  | [] => rfl
  | y :: xs => by simp only [List.cons_append, halves, halves_snoc x xs]
theorem i64_noD (x y : Int) : NoD (#[Value.int .i64 x, .int .i64 y]).toList := by
  intro u hu n
  simp at hu
  rcases hu with rfl | rfl <;> simp
theorem int0_noD : NoD (Value.int .i64 0).cells.toList := by
  intro u hu n
  simp [Value.cells] at hu
  subst hu
  simp
def i64s (ds : List Nat) : List Value := ds.map fun (d : Nat) => .int .i64 (d : Int)
theorem OwnQ.d16 {w : World} {base : Nat} {e : TypeId} {v : Value} {n : Nat} {ds : List Nat} (h : OwnQ w base e 1 v n (i64s ds)) (hn : n = ds.length) (hd : ∀ x ∈ ds, x < 65536) : D16 w v ds := by
  subst hn
  have hc : ∀ {g : Nat}, v.ownBlock = some g → ∀ j u, (i64s ds)[j]? = some u → w.cell? ((⟨g, 0, none⟩ : Addr).add j) = some u := fun hg => h.1.cells hg
  rcases h.1.2 with ⟨rfl, hn0⟩ | ⟨g, cap, cur, rfl, _, _, hnc, hcm, _⟩
  · exact ⟨.inl ⟨rfl, List.eq_nil_of_length_eq_zero hn0⟩, hd⟩
  · refine ⟨.inr ⟨g, 0, cap, rfl, hnc, by simp only [maxLen] at hcm; omega, fun i hi => ?_⟩, hd⟩
    have := hc (g := g) rfl i (.int .i64 ((ds[i]?.getD 0 : Nat) : Int)) (by unfold i64s; rw [List.getElem?_map, List.getElem?_eq_getElem hi]; rfl)
    rw [addr0] at this
    rw [Nat.zero_add]; exact this

set_option maxRecDepth 100000 in
set_option maxHeartbeats 40000000 in
theorem MTake_calls (w : World) (neg : Bool) (v : Value) (xs : List Nat) (hx : Nums w v xs) (lx : xs.length ≤ 1099511627776) :
    Calls Tryz.prog 70 #[.agg #[.bool neg, v]] w fun e w' => ∃ nv, e = .returned nv ∧ NZ w' nv (sg neg (val 4294967296 xs)) ∧ w.grownBy w' none := by
  obtain ⟨A, c, rfl, h1, h2⟩ := hx.form
  have gw := gb_trans (gb_alloc w (.cells #[.bool neg, .slice A xs.length c] 49) none) (gb_alloc _ (.cells #[.bool false, .slice none 0 0] 122) none)
  have hB := (Blk.new w #[.bool neg, .slice A xs.length c] 49).more (gb_alloc _ (.cells #[.bool false, .slice none 0 0] 122) none)
  have hB2 := Blk.new (w.alloc (.cells #[.bool neg, .slice A xs.length c] 49)) #[.bool false, .slice none 0 0] 122
  rw [World.size_alloc] at hB2
  have HX := Lib.hid (hx.more gw)
  have hsz : (((w.alloc (.cells #[.bool neg, .slice A xs.length c] 49)).alloc (.cells #[.bool false, .slice none 0 0] 122))).heap.size = w.heap.size + 2 := by simp
  have HB := Lib.hid hB
  have HB2 := Lib.hid hB2
  have HSZ := Lib.hid hsz
  have HGW := Lib.hid gw
  have HL := Lib.hid lx
  clear hx hB hB2 hsz gw
  go_enter Tryz.func70, Tryz.ntmps70
  go_wp2_with fail
  generalize (w.alloc (.cells #[.bool neg, .slice A xs.length c] 49)).alloc (.cells #[.bool false, .slice none 0 0] 122) = wa at *
  generalize hs : w.heap.size = s at *
  have HS := Lib.hid hs
  clear hs
  go_loopw [3, 4] (fun bv i wr => ∃ k : Nat, k ≤ xs.length ∧ i = .int .i64 k ∧ wa.grownBy wr none ∧ Hid (OwnQ wr wa.heap.size 3 1 bv (k * 2) (i64s (halves (xs.take k))))) (fun _ i _ => (xs.length - intOf i).toNat)
  case atStart => exact ⟨0, by omega, rfl, gb_refl _ _, Lib.hid (OwnQ.nil _ _ _ _)⟩
  case round =>
    obtain ⟨k, hk, rfl, hg, hown⟩ := hrel
    obtain ⟨b0, b1, _⟩ := (HB.out.more hg).two
    have HG := Lib.hid hg
    by_cases hlt : k < xs.length
    · have HLT := Lib.hid hlt
      obtain ⟨A', c', e, _, _, hA⟩ := (HX.out.more hg).read
      injection e with e1 e2 e3
      subst e1
      obtain ⟨b, o, rfl, hc⟩ := hA (by omega)
      have hcell := hc k hlt
      have hxk : xs[k]?.getD 0 < 4294967296 := by rw [List.getElem?_eq_getElem hlt]; exact HX.out.2 _ (List.getElem_mem _)
      generalize hxv : xs[k]?.getD 0 = x at *
      have HXV := Lib.hid hxv
      clear hxv hc hA e3 hg
      go_wp2_with fail
      have hs1 := HG.out.size
      have r0 : (x : Int).tmod 65536 = (x : Int) % 65536 := Int.tmod_eq_emod_of_nonneg (by omega)
      have r1 : IntKind.i64.wrap ((x : Int) % 65536) = (x : Int) % 65536 := IntWalk.i64_in _ (by omega)
      have r2 : IntKind.u32.wrap ((x : Int) / 65536) = (x : Int) / 65536 := IntWalk.u32_in _ (by omega)
      have r3 : IntKind.i64.wrap ((x : Int) / 65536) = (x : Int) / 65536 := IntWalk.i64_in _ (by omega)
      go_region_law (first
        | (refine step_app_qm (by rfl) (.tmp 12) (.tmp 27) 30 (by rfl) 2 (by omega) wa.heap.size 3 (.int .i64 0) 1 8 Tryz.underlying30 intinfo rfl (by omega) (by omega) u3 (k * 2) _ (by rfl) (hown.out.more (gb_trans (gb_alloc _ _ _) (gb_drew _ _))) wr.heap.size #[.int .i64 ((x : Int) % 65536), .int .i64 ((x : Int) / 65536)] 3 (0, 0) (show (wr.alloc _).heap[wr.heap.size]? = _ from heap_alloc_new wr _) (by rfl) (by rfl) (by simp [Value.oneCell']) (by omega) (Nat.le_trans hs1 (gb_trans (gb_alloc wr _ none) (gb_drew _ none)).size) (i64_noD _ _) int0_noD ?_; intro g cap w3 hown3 hgrow hat; have H3 := Lib.hid (And.intro hown3 hgrow); clear hown3 hgrow hat)
        | (fail))
      all_goals
        go_wp2_with fail
        have hkl := HLT.out
        have hlx := HL.out
        refine ⟨⟨k + 1, HLT.out, by go_num, gb_own (gb_trans HG.out (gb_trans (gb_alloc _ _ _) (gb_drew _ _))) (hown.out.more (gb_trans (gb_alloc _ _ _) (gb_drew _ _))) H3.out.2, Lib.hid ?_⟩, by simp [intOf]; omega⟩
        have ex : xs[k] = x := by have := HXV.out; rwa [List.getElem?_eq_getElem HLT.out] at this
        have e : i64s (halves (xs.take (k + 1))) = i64s (halves (xs.take k)) ++ [.int .i64 ((x : Int) % 65536), .int .i64 ((x : Int) / 65536)] := by
          rw [List.take_add_one, List.getElem?_eq_getElem HLT.out, ex]
          simp only [Option.toList_some]
          rw [halves_snoc]
          unfold i64s
          rw [List.map_append]
          simp
        rw [e, show (k + 1) * 2 = k * 2 + 2 by omega]
        exact H3.out.1
    · obtain rfl : k = xs.length := by omega
      have hd0 : D16 wr u3 (halves xs) := by
        have := hown.out.d16 (by rw [halves_length, List.take_of_length_le (Nat.le_refl _)]) (by rw [List.take_of_length_le (Nat.le_refl _)]; exact halves_lt HX.out.2)
        rwa [List.take_of_length_le (Nat.le_refl _)] at this
      have hfar : u3.ownBlock ≠ some (s + 1) := by
        have := HSZ.out
        rcases hown.out.1.2 with ⟨rfl, _⟩ | ⟨g, cap, cur, rfl, hb, _⟩
        · simp [Value.ownBlock]
        · simp [Value.ownBlock]; omega
      have HD0 := Lib.hid hd0
      have HFAR := Lib.hid hfar
      clear hd0 hfar hown
      have HK2 := Lib.hid (HB2.out.more hg)
      go_wp2_with fail
      refine (Rtrim_calls wr u3 (halves xs) HD0.out).mono ?_
      rintro e w' ⟨v', rfl, hd1, hob, rfl⟩
      rw [halves_val] at hd1
      obtain ⟨A1, c1, rfl, hl1⟩ := hd1.ctor
      have hz0 : (dig 65536 (val 4294967296 xs)).length = 0 ↔ val 4294967296 xs = 0 := by rw [List.length_eq_zero_iff]; exact dig_eq_nil _ _ (by omega)
      have HD1 := Lib.hid hd1
      have HZ0 := Lib.hid hz0
      have HOB := Lib.hid (show (Value.slice A1 (dig 65536 (val 4294967296 xs)).length c1).ownBlock ≠ some (s + 1) by rw [hob]; exact HFAR.out)
      obtain ⟨d0, d1, f0, f1⟩ := HK2.out.two
      have HGG := Lib.hid (gb_trans HGW.out hg)
      have HSS := Lib.hid HSZ.out
      clear hd1 hob hz0 hg HG
      generalize hn : (dig 65536 (val 4294967296 xs)).length = n at *
      have HN := Lib.hid hn
      clear hn
      cases neg with
      | false =>
        go_wp2
        try simp only [Exit.inBlock, Exit.then]
        have hg6 : wr.grownBy ((wr.setCell ⟨s + 1, 0, none⟩ (.bool false)).setCell ⟨s + 1, 1, none⟩ (.slice A1 n c1)) (some (s + 1)) := gb_trans (gb_set _ _ _ _) (gb_set _ _ _ _)
        refine bodyPost_ret (v := .agg #[.bool false, .slice A1 n c1]) (by simp [results, Tryz.results70, go_sem, *]) rfl ⟨_, rfl, ⟨.slice A1 n c1, ?_, ?_⟩, gb_new HGG.out hg6 (by have := HS.out; omega)⟩
        · rw [sg_neg]; rfl
        · unfold d16; rw [sg_natAbs]; exact HD1.out.apart hg6 HOB.out
      | true =>
        by_cases hz : n = 0
        · subst hz
          have HZ := Lib.hid (HZ0.out.1 rfl)
          go_wp2
          try simp only [Exit.inBlock, Exit.then]
          have hg6 : wr.grownBy ((wr.setCell ⟨s + 1, 0, none⟩ (.bool false)).setCell ⟨s + 1, 1, none⟩ (.slice A1 0 c1)) (some (s + 1)) := gb_trans (gb_set _ _ _ _) (gb_set _ _ _ _)
          refine bodyPost_ret (v := .agg #[.bool false, .slice A1 0 c1]) (by simp [results, Tryz.results70, go_sem, *]) rfl ⟨_, rfl, ⟨.slice A1 0 c1, ?_, ?_⟩, gb_new HGG.out hg6 (by have := HS.out; omega)⟩
          · rw [sg_neg]; rw [HZ.out]; rfl
          · unfold d16; rw [sg_natAbs]; exact HD1.out.apart hg6 HOB.out
        · have t0 : (0 : Int) < (n : Int) := by omega
          have t1 : decide (0 < n) = true := by rw [decide_eq_true_iff]; omega
          have t2 : decide ((0 : Int) < (n : Int)) = true := by rw [decide_eq_true_iff]; omega
          have HZ := Lib.hid (fun h => hz (HZ0.out.2 h))
          clear hz
          go_wp2
          try simp only [Exit.inBlock, Exit.then]
          have hg6 : wr.grownBy ((wr.setCell ⟨s + 1, 0, none⟩ (.bool true)).setCell ⟨s + 1, 1, none⟩ (.slice A1 n c1)) (some (s + 1)) := gb_trans (gb_set _ _ _ _) (gb_set _ _ _ _)
          refine bodyPost_ret (v := .agg #[.bool true, .slice A1 n c1]) (by simp [results, Tryz.results70, go_sem, *]) rfl ⟨_, rfl, ⟨.slice A1 n c1, ?_, ?_⟩, gb_new HGG.out hg6 (by have := HS.out; omega)⟩
          · rw [sg_neg]; rw [decide_eq_true (show ¬ _ from HZ.out)]; rfl
          · unfold d16; rw [sg_natAbs]; exact HD1.out.apart hg6 HOB.out

end Go.Proofs.YtmfmfpmkgmkgiaaGreatDoor

namespace Go.Proofs.YtmfmfpmkgmkgiaaGreatDoor
open Go.RowKit
open Rat

set_option maxHeartbeats 40000000 in
theorem mags_eq_calls (w : World) (b o c b' o' c' : Nat) (xs ys : List Nat) (hl : Hid (xs.length = ys.length)) (h2 : xs.length ≤ 9223372036854775807)
    (hc : ∀ i, i < xs.length → w.cell? ⟨b, o + i, none⟩ = some (.int .i64 ((xs[i]?.getD 0 : Nat) : Int))) (hc' : ∀ i, i < xs.length → w.cell? ⟨b', o' + i, none⟩ = some (.int .i64 ((ys[i]?.getD 0 : Nat) : Int))) :
    Calls Tryz.prog 182 #[.slice (some ⟨b, o, none⟩) xs.length c, .slice (some ⟨b', o', none⟩) xs.length c'] w fun e w' => e = .returned (.int .i64 (cmpD xs ys xs.length)) ∧ ∃ n, w' = w.drewN n := by
  go_enter Tryz.func182, Tryz.ntmps182
  go_wp2
  go_loopw [5] (fun i wr => ∃ k m : Nat, k ≤ xs.length ∧ i = .int .i64 ((k : Int) - 1) ∧ wr = w.drewN m ∧ Hid (cmpD xs ys k = cmpD xs ys xs.length)) (fun i _ => (intOf i + 1).toNat)
  case atStart => exact ⟨_, 0, Nat.le_refl _, rfl, rfl, rfl⟩
  case round =>
    obtain ⟨k, m, hk, rfl, rfl, ht⟩ := hrel
    by_cases hpos : 0 < k
    · have g1 := hc (k - 1) (by omega)
      have g2 := hc' (k - 1) (by omega)
      have e1 : (((k : Int) - 1).toNat) = k - 1 := by omega
      have HC := Lib.hid (cmpD_go (xs := xs) (ys := ys) hpos)
      have HN := Lib.hid (cmpD_ne (xs := xs) (ys := ys) hpos)
      clear hc hc'
      generalize xs[k - 1]?.getD 0 = x at *
      generalize ys[k - 1]?.getD 0 = y at *
      by_cases hlt : x < y
      · have HLT := Lib.hid hlt
        clear hlt
        have t1 : (x : Int) < (y : Int) := by have := HLT.out; omega
        go_wp2
        go_quiet (fail)
        go_wp2
        go_ret
        exact ⟨ret_int (by rw [← ht.out, HN.out (by rw [bne_iff_ne]; have := HLT.out; omega), if_pos HLT.out]), _, by rw [World.drewN_drewN]⟩
      · have HLT := Lib.hid hlt
        clear hlt
        by_cases hgt : y < x
        · have HGT := Lib.hid hgt
          clear hgt
          have t1 : ¬ (x : Int) < (y : Int) := by have := HLT.out; omega
          have t2 : (y : Int) < (x : Int) := by have := HGT.out; omega
          go_wp2
          go_quiet (fail)
          go_wp2
          go_quiet (fail)
          go_wp2
          go_ret
          exact ⟨ret_int (by rw [← ht.out, HN.out (by rw [bne_iff_ne]; have := HGT.out; omega), if_neg HLT.out]), _, by rw [World.drewN_drewN, World.drewN_drewN]⟩
        · have HGT := Lib.hid hgt
          clear hgt
          have t1 : ¬ (x : Int) < (y : Int) := by have := HLT.out; omega
          have t2 : ¬ (y : Int) < (x : Int) := by have := HGT.out; omega
          go_wp2
          go_quiet (fail)
          go_wp2
          go_quiet (fail)
          go_wp2
          exact ⟨⟨k - 1, _, by omega, by go_num, by first | rfl | rw [World.drewN_drewN], Lib.hid ((HC.out (by rw [bne_eq_false_iff_eq]; have := HLT.out; have := HGT.out; omega)).trans ht.out)⟩, by simp [intOf]; omega⟩
    · go_wp2
      go_ret
      exact ⟨ret_int (by rw [← ht.out]; obtain rfl : k = 0 := by omega
                         rfl), m, rfl⟩

set_option maxHeartbeats 40000000 in
theorem mags_nil_calls (w : World) (v1 v2 : Value) (A A' : Option Addr) (c c' : Nat) (h1 : v1 = .slice A 0 c) (h2 : v2 = .slice A' 0 c') :
    Calls Tryz.prog 182 #[v1, v2] w fun e w' => e = .returned (.int .i64 0) ∧ ∃ n, w' = w.drewN n := by
  subst h1 h2
  go_enter Tryz.func182, Tryz.ntmps182
  go_wp2
  go_loop [5] (fun i => i = .int .i64 (-1)) (fun _ => 0)
  case atStart => rfl
  case round =>
    obtain rfl := hrel
    go_wp2
    go_ret
    exact ⟨rfl, 0, rfl⟩

set_option maxHeartbeats 40000000 in
theorem mags_ne_calls (w : World) (A A' : Option Addr) (n n' c c' : Nat) (_hn : n ≤ 9223372036854775807) (_hn' : n' ≤ 9223372036854775807) (h : ¬ n = n') :
    Calls Tryz.prog 182 #[.slice A n c, .slice A' n' c'] w fun e w' => e = .returned (.int .i64 (if n < n' then -1 else 1)) ∧ ∃ m, w' = w.drewN m := by
  have t : (((n : Int)) != ((n' : Int))) = true := by rw [bne_iff_ne]; omega
  have H := Lib.hid h
  clear h
  by_cases hl : n < n'
  all_goals
    rw [show (if n < n' then (-1 : Int) else 1) = _ from by first | exact if_pos hl | exact if_neg hl]
    go_enter Tryz.func182, Tryz.ntmps182
    go_wp2
    go_ret
    exact ⟨rfl, 0, rfl⟩

theorem mags_calls (w : World) (v1 v2 : Value) (xs ys : List Nat) (hx : D16 w v1 xs) (hy : D16 w v2 ys) :
    Calls Tryz.prog 182 #[v1, v2] w fun e w' => e = .returned (.int .i64 (cmpL xs ys)) ∧ ∃ n, w' = w.drewN n := by
  unfold cmpL
  by_cases hlen : xs.length = ys.length
  · rw [if_pos hlen]
    rcases hx.1 with ⟨rfl, rfl⟩ | ⟨b, o, c, rfl, h1, h2, hc⟩
    · obtain ⟨A', c', rfl, _⟩ := hy.ctor
      rw [← hlen]
      exact mags_nil_calls w _ _ _ _ _ _ rfl rfl
    · rcases hy.1 with ⟨rfl, rfl⟩ | ⟨b', o', c', rfl, h1', h2', hc'⟩
      · simp only [List.length_nil] at hlen
        rw [hlen]
        exact mags_nil_calls w _ _ _ _ _ _ rfl rfl
      · rw [← hlen] at hc' ⊢
        exact mags_eq_calls w b o c b' o' c' xs ys hlen (by omega) hc hc'
  · rw [if_neg hlen]
    obtain ⟨A, c, rfl, hl1⟩ := hx.ctor
    obtain ⟨A', c', rfl, hl2⟩ := hy.ctor
    exact mags_ne_calls w _ _ _ _ _ _ hl1 hl2 hlen

theorem cmpD_val16 {xs ys : List Nat} (hx : ∀ x ∈ xs, x < 65536) (hy : ∀ y ∈ ys, y < 65536) : ∀ k, cmpD xs ys k = cmpN (val 65536 (xs.take k)) (val 65536 (ys.take k))
  | 0 => by simp [cmpD, cmpN, val]
  | k + 1 => by
    rw [cmpD, val_take_succ, val_take_succ, cmpD_val16 hx hy k, List.getD_eq_getElem?_getD, List.getD_eq_getElem?_getD]
    have a1 := val_lt 65536 (xs.take k) (fun x h => hx x (List.mem_of_mem_take h))
    have a2 := val_lt 65536 (ys.take k) (fun x h => hy x (List.mem_of_mem_take h))
    have b1 : 65536 ^ (xs.take k).length ≤ 65536 ^ k := Nat.pow_le_pow_right (by omega) (by simp; omega)
    have b2 : 65536 ^ (ys.take k).length ≤ 65536 ^ k := Nat.pow_le_pow_right (by omega) (by simp; omega)
    generalize val 65536 (xs.take k) = a at *
    generalize val 65536 (ys.take k) = b at *
    generalize xs[k]?.getD 0 = x at *
    generalize ys[k]?.getD 0 = y at *
    generalize 65536 ^ k = p at *
    split
    · rename_i h; subst h; unfold cmpN; simp
    · rename_i h
      split
      · rename_i h'
        have : p * (x + 1) ≤ p * y := Nat.mul_le_mul_left p h'
        rw [Nat.mul_add] at this
        unfold cmpN; rw [if_pos (by omega)]
      · rename_i h'
        have : p * (y + 1) ≤ p * x := Nat.mul_le_mul_left p (by omega)
        rw [Nat.mul_add] at this
        unfold cmpN; rw [if_neg (by omega), if_neg (by omega)]
theorem cmpL_dig16 (a b : Nat) : cmpL (dig 65536 a) (dig 65536 b) = cmpN a b := by
  have hB : 2 ≤ 65536 := by omega
  unfold cmpL
  split
  · rename_i h
    rw [cmpD_val16 (dig_lt _ hB a) (dig_lt _ hB b), List.take_length, h, List.take_length, val_dig _ hB, val_dig _ hB]
  · rename_i h
    have l1 := dig_len 65536 hB a
    have l2 := dig_len 65536 hB b
    have g1 := val_lt 65536 _ (dig_lt _ hB a)
    have g2 := val_lt 65536 _ (dig_lt _ hB b)
    rw [val_dig _ hB] at g1 g2
    split
    · rename_i h'
      have := mt (l2 (dig 65536 a).length).2 (by omega)
      unfold cmpN; rw [if_pos (by omega)]
    · rename_i h'
      have := mt (l1 (dig 65536 b).length).2 (by omega)
      unfold cmpN; rw [if_neg (by omega), if_neg (by omega)]

theorem mags_dig_calls (w : World) (v1 v2 : Value) (a b : Nat) (hx : D16 w v1 (dig 65536 a)) (hy : D16 w v2 (dig 65536 b)) :
    Calls Tryz.prog 182 #[v1, v2] w fun e w' => e = .returned (.int .i64 (cmpN a b)) ∧ w.grownBy w' none := by
  refine (mags_calls w v1 v2 _ _ hx hy).mono ?_
  rintro e w' ⟨rfl, n, rfl⟩
  exact ⟨by rw [cmpL_dig16], gb_drewN w n none⟩

end Go.Proofs.YtmfmfpmkgmkgiaaGreatDoor

namespace Go.Proofs.YtmfmfpmkgmkgiaaGreatDoor
open Go.RowKit Go.Maps
open Rat

theorem OwnQ.from {w : World} {base : Nat} {e : TypeId} {size n : Nat} {v : Value} {xs : List Value} (h : OwnQ w base e size v n xs) : From base v := by
  intro b hb
  rcases h.1.2 with ⟨rfl, _⟩ | ⟨g, cap, cur, rfl, hbb, _⟩
  · simp [Value.ownBlock] at hb
  · simp [Value.ownBlock] at hb; omega
theorem D16.at {w : World} {A : Option Addr} {n c : Nat} {ds : List Nat} (h : D16 w (.slice A n c) ds) {i : Nat} (hi : i < ds.length) :
    ∃ b o, A = some ⟨b, o, none⟩ ∧ w.cell? ⟨b, o + i, none⟩ = some (.int .i64 ((ds.getD i 0 : Nat) : Int)) ∧ ds.getD i 0 < 65536 := by
  have hlt : ds.getD i 0 < 65536 := by rw [List.getD_eq_getElem?_getD, List.getElem?_eq_getElem hi]; exact h.2 _ (List.getElem_mem _)
  rcases h.1 with ⟨_, rfl⟩ | ⟨b, o, c', e, h1, h2, h3⟩
  · simp at hi
  · injection e with e e1 e2
    subst e
    exact ⟨b, o, rfl, by rw [h3 i hi, List.getD_eq_getElem?_getD], hlt⟩
theorem int1_noD (x : Int) : NoD (#[Value.int .i64 x]).toList := by
  intro u hu n
  simp at hu
  subst hu
  simp
theorem getD_out {ds : List Nat} {i : Nat} (h : ¬ i < ds.length) : ds.getD i 0 = 0 := by
  rw [List.getD_eq_getElem?_getD, List.getElem?_eq_none (by omega)]; rfl

theorem plus_step {xs ys ds : List Nat} {k q s : Nat} (hl : ds.length = k) (h : val 65536 ds + 65536 ^ k * q = val 65536 (xs.take k) + val 65536 (ys.take k)) (hs : s = q + xs.getD k 0 + ys.getD k 0) :
    val 65536 (ds ++ [s % 65536]) + 65536 ^ (k + 1) * (s / 65536) = val 65536 (xs.take (k + 1)) + val 65536 (ys.take (k + 1)) := by
  rw [val_append, hl, val_take_succ, val_take_succ, Nat.pow_succ]
  simp only [val, Nat.mul_zero, Nat.add_zero]
  generalize 65536 ^ k = p at *
  have e : p * s = p * (s % 65536) + p * 65536 * (s / 65536) := by rw [Nat.mul_assoc, ← Nat.mul_add, Nat.mod_add_div]
  have e2 : p * s = p * q + p * xs.getD k 0 + p * ys.getD k 0 := by rw [hs, Nat.mul_add, Nat.mul_add]
  omega

set_option maxRecDepth 100000 in
set_option maxHeartbeats 40000000 in
theorem Mplus_calls (w : World) (v1 v2 : Value) (xs ys : List Nat) (hx : D16 w v1 xs) (hy : D16 w v2 ys) (lx : xs.length ≤ 1099511627776) (ly : ys.length ≤ 1099511627776) :
    Calls Tryz.prog 181 #[v1, v2] w fun e w' => ∃ v', e = .returned v' ∧ D16 w' v' (dig 65536 (val 65536 xs + val 65536 ys)) ∧ From w.heap.size v' ∧ w.grownBy w' none := by
  obtain ⟨A1, c1, rfl, _⟩ := hx.ctor
  obtain ⟨A2, c2, rfl, _⟩ := hy.ctor
  have HX := Lib.hid hx
  have HY := Lib.hid hy
  clear hx hy
  go_enter Tryz.func181, Tryz.ntmps181
  go_wp2_with fail
  go_loopw [5, 6, 7] (fun bv cv i wr => ∃ (k q : Nat) (ds : List Nat), k ≤ max xs.length ys.length + 1 ∧ q ≤ 1 ∧ i = .int .i64 k ∧ cv = .int .i64 q ∧ w.grownBy wr none ∧ Hid (k = max xs.length ys.length + 1 → q = 0) ∧ Hid (OwnQ wr w.heap.size 3 1 bv k (i64s ds)) ∧ Hid ((∀ d ∈ ds, d < 65536) ∧ ds.length = k ∧ val 65536 ds + 65536 ^ k * q = val 65536 (xs.take k) + val 65536 (ys.take k))) (fun _ _ i _ => (max xs.length ys.length + 1 - intOf i).toNat)
  case atStart => exact ⟨0, 0, [], by omega, by omega, rfl, rfl, gb_refl _ _, Lib.hid (fun _ => rfl), Lib.hid (OwnQ.nil _ _ _ _), Lib.hid ⟨by simp, rfl, by simp [val]⟩⟩
  case round =>
    obtain ⟨k, q, ds, hk, hq, rfl, rfl, hg, hend, hown, hval⟩ := hrel
    by_cases a1 : k < xs.length
    · obtain ⟨b1, o1, rfl, u1, lx1⟩ := (HX.out.more hg).at a1
      generalize hxk : xs.getD k 0 = x at *
      by_cases a2 : k < ys.length
      · obtain ⟨b2, o2, rfl, u2, ly1⟩ := (HY.out.more hg).at a2
        generalize hyk : ys.getD k 0 = y at *
        obtain ⟨s, hs⟩ : ∃ s, s = q + x + y := ⟨_, rfl⟩
        have hS : (q : Int) + x + y = (s : Int) := by omega
        have HSUM : Hid (s = q + xs.getD k 0 + ys.getD k 0) := Lib.hid (by rw [hxk, hyk]; exact hs)
        clear hxk hyk
        have hsb : s ≤ 131071 := by omega
        clear hs
        have r1 : (s : Int).tmod 65536 = (s : Int) % 65536 := Int.tmod_eq_emod_of_nonneg (by omega)
        have r2 : (s : Int).tdiv 65536 = (s : Int) / 65536 := Int.tdiv_eq_ediv_of_nonneg (by omega)
        have HS3 := Lib.hid (show s ≤ 131071 by omega)
        have hs1 := hg.size
        have HG := Lib.hid hg
        have HQ := Lib.hid hq
        have HKM := Lib.hid (show k ≤ max xs.length ys.length by omega)
        clear hg hk hend
        go_wp2_with (first
          | (at_builtin; refine app_one_q w.heap.size rfl (.tmp 46) (.tmp 49) 30 3 (.int .i64 0) 1 8 rfl Tryz.underlying30 intinfo rfl (by omega) (by omega) u5 k (i64s ds) #[.int .i64 ((s : Int) % 65536)] (by rfl) hown.out (by rfl) (by rfl) (by simp [Value.oneCell']) (by omega) (by omega) (int1_noD _) int0_noD ?_; intro g cap w3 hown3 hgrow; have H3 := Lib.hid (And.intro hown3 hgrow); clear hown3 hgrow)
          | fail)
        have hkm := HKM.out
        have hs3 := HS3.out
        refine ⟨⟨k + 1, s / 65536, ds ++ [s % 65536], by omega, by omega, by go_num, by go_num, gb_own (gb_trans HG.out (gb_alloc _ _ _)) (hown.out.more (gb_alloc _ _ _)) H3.out.2, Lib.hid (fun h => ?_), Lib.hid ?_, Lib.hid ⟨?_, ?_, ?_⟩⟩, by simp [intOf]; omega⟩
        · have hsum := HSUM.out
          have hq := HQ.out
          rw [getD_out (ds := xs) (i := k) (by omega), getD_out (ds := ys) (i := k) (by omega)] at hsum
          omega
        · have := H3.out.1
          unfold i64s at *
          rw [List.map_append]
          simpa using this
        · intro d hd
          rcases List.mem_append.1 hd with hd | hd
          · exact hval.out.1 d hd
          · simp at hd; omega
        · rw [List.length_append, hval.out.2.1]; rfl
        · exact plus_step hval.out.2.1 hval.out.2.2 HSUM.out
      · obtain ⟨s, hs⟩ : ∃ s, s = q + x := ⟨_, rfl⟩
        have hS : (q : Int) + x = (s : Int) := by omega
        have HSUM : Hid (s = q + xs.getD k 0 + ys.getD k 0) := Lib.hid (by rw [hxk, getD_out a2]; exact hs)
        clear hxk
        have hsb : s ≤ 131071 := by omega
        clear hs
        have r1 : (s : Int).tmod 65536 = (s : Int) % 65536 := Int.tmod_eq_emod_of_nonneg (by omega)
        have r2 : (s : Int).tdiv 65536 = (s : Int) / 65536 := Int.tdiv_eq_ediv_of_nonneg (by omega)
        have HS3 := Lib.hid (show s ≤ 131071 by omega)
        have hs1 := hg.size
        have HG := Lib.hid hg
        have HQ := Lib.hid hq
        have HKM := Lib.hid (show k ≤ max xs.length ys.length by omega)
        clear hg hk hend
        go_wp2_with (first
          | (at_builtin; refine app_one_q w.heap.size rfl (.tmp 46) (.tmp 49) 30 3 (.int .i64 0) 1 8 rfl Tryz.underlying30 intinfo rfl (by omega) (by omega) u5 k (i64s ds) #[.int .i64 ((s : Int) % 65536)] (by rfl) hown.out (by rfl) (by rfl) (by simp [Value.oneCell']) (by omega) (by omega) (int1_noD _) int0_noD ?_; intro g cap w3 hown3 hgrow; have H3 := Lib.hid (And.intro hown3 hgrow); clear hown3 hgrow)
          | fail)
        have hkm := HKM.out
        have hs3 := HS3.out
        refine ⟨⟨k + 1, s / 65536, ds ++ [s % 65536], by omega, by omega, by go_num, by go_num, gb_own (gb_trans HG.out (gb_alloc _ _ _)) (hown.out.more (gb_alloc _ _ _)) H3.out.2, Lib.hid (fun h => ?_), Lib.hid ?_, Lib.hid ⟨?_, ?_, ?_⟩⟩, by simp [intOf]; omega⟩
        · have hsum := HSUM.out
          have hq := HQ.out
          rw [getD_out (ds := xs) (i := k) (by omega), getD_out (ds := ys) (i := k) (by omega)] at hsum
          omega
        · have := H3.out.1
          unfold i64s at *
          rw [List.map_append]
          simpa using this
        · intro d hd
          rcases List.mem_append.1 hd with hd | hd
          · exact hval.out.1 d hd
          · simp at hd; omega
        · rw [List.length_append, hval.out.2.1]; rfl
        · exact plus_step hval.out.2.1 hval.out.2.2 HSUM.out
    · by_cases a2 : k < ys.length
      · obtain ⟨b2, o2, rfl, u2, ly1⟩ := (HY.out.more hg).at a2
        generalize hyk : ys.getD k 0 = y at *
        obtain ⟨s, hs⟩ : ∃ s, s = q + y := ⟨_, rfl⟩
        have hS : (q : Int) + y = (s : Int) := by omega
        have HSUM : Hid (s = q + xs.getD k 0 + ys.getD k 0) := Lib.hid (by rw [hyk, getD_out a1]; exact hs)
        clear hyk
        have hsb : s ≤ 131071 := by omega
        clear hs
        have r1 : (s : Int).tmod 65536 = (s : Int) % 65536 := Int.tmod_eq_emod_of_nonneg (by omega)
        have r2 : (s : Int).tdiv 65536 = (s : Int) / 65536 := Int.tdiv_eq_ediv_of_nonneg (by omega)
        have HS3 := Lib.hid (show s ≤ 131071 by omega)
        have hs1 := hg.size
        have HG := Lib.hid hg
        have HQ := Lib.hid hq
        have HKM := Lib.hid (show k ≤ max xs.length ys.length by omega)
        clear hg hk hend
        go_wp2_with (first
          | (at_builtin; refine app_one_q w.heap.size rfl (.tmp 46) (.tmp 49) 30 3 (.int .i64 0) 1 8 rfl Tryz.underlying30 intinfo rfl (by omega) (by omega) u5 k (i64s ds) #[.int .i64 ((s : Int) % 65536)] (by rfl) hown.out (by rfl) (by rfl) (by simp [Value.oneCell']) (by omega) (by omega) (int1_noD _) int0_noD ?_; intro g cap w3 hown3 hgrow; have H3 := Lib.hid (And.intro hown3 hgrow); clear hown3 hgrow)
          | fail)
        have hkm := HKM.out
        have hs3 := HS3.out
        refine ⟨⟨k + 1, s / 65536, ds ++ [s % 65536], by omega, by omega, by go_num, by go_num, gb_own (gb_trans HG.out (gb_alloc _ _ _)) (hown.out.more (gb_alloc _ _ _)) H3.out.2, Lib.hid (fun h => ?_), Lib.hid ?_, Lib.hid ⟨?_, ?_, ?_⟩⟩, by simp [intOf]; omega⟩
        · have hsum := HSUM.out
          have hq := HQ.out
          rw [getD_out (ds := xs) (i := k) (by omega), getD_out (ds := ys) (i := k) (by omega)] at hsum
          omega
        · have := H3.out.1
          unfold i64s at *
          rw [List.map_append]
          simpa using this
        · intro d hd
          rcases List.mem_append.1 hd with hd | hd
          · exact hval.out.1 d hd
          · simp at hd; omega
        · rw [List.length_append, hval.out.2.1]; rfl
        · exact plus_step hval.out.2.1 hval.out.2.2 HSUM.out
      · by_cases a3 : 0 < q
        · have hke := hend.out
          have HSUM : Hid (q = q + xs.getD k 0 + ys.getD k 0) := Lib.hid (by rw [getD_out a1, getD_out a2]; rfl)
          have a4 : k ≤ max xs.length ys.length := by omega
          clear hke
          have r1 : (q : Int).tmod 65536 = (q : Int) % 65536 := Int.tmod_eq_emod_of_nonneg (by omega)
          have r2 : (q : Int).tdiv 65536 = (q : Int) / 65536 := Int.tdiv_eq_ediv_of_nonneg (by omega)
          have HS3 := Lib.hid (show q ≤ 131071 by omega)
          have hs1 := hg.size
          have HG := Lib.hid hg
          have HQ := Lib.hid hq
          have HKM := Lib.hid (show k ≤ max xs.length ys.length by omega)
          clear hg hk hend
          go_wp2_with (first
            | (at_builtin; refine app_one_q w.heap.size rfl (.tmp 46) (.tmp 49) 30 3 (.int .i64 0) 1 8 rfl Tryz.underlying30 intinfo rfl (by omega) (by omega) u5 k (i64s ds) #[.int .i64 ((q : Int) % 65536)] (by rfl) hown.out (by rfl) (by rfl) (by simp [Value.oneCell']) (by omega) (by omega) (int1_noD _) int0_noD ?_; intro g cap w3 hown3 hgrow; have H3 := Lib.hid (And.intro hown3 hgrow); clear hown3 hgrow)
            | fail)
          have hkm := HKM.out
          have hs3 := HS3.out
          refine ⟨⟨k + 1, q / 65536, ds ++ [q % 65536], by omega, by omega, by go_num, by go_num, gb_own (gb_trans HG.out (gb_alloc _ _ _)) (hown.out.more (gb_alloc _ _ _)) H3.out.2, Lib.hid (fun h => ?_), Lib.hid ?_, Lib.hid ⟨?_, ?_, ?_⟩⟩, by simp [intOf]; omega⟩
          · have hsum := HSUM.out
            have hq := HQ.out
            rw [getD_out (ds := xs) (i := k) (by omega), getD_out (ds := ys) (i := k) (by omega)] at hsum
            omega
          · have := H3.out.1
            unfold i64s at *
            rw [List.map_append]
            simpa using this
          · intro d hd
            rcases List.mem_append.1 hd with hd | hd
            · exact hval.out.1 d hd
            · simp at hd; omega
          · rw [List.length_append, hval.out.2.1]; rfl
          · exact plus_step hval.out.2.1 hval.out.2.2 HSUM.out
        · obtain rfl : q = 0 := by omega
          have hd : D16 wr u5 ds := hown.out.d16 hval.out.2.1.symm hval.out.1
          have HD := Lib.hid hd
          have HFR := Lib.hid hown.out.from
          have HV : Hid (val 65536 ds = val 65536 xs + val 65536 ys) := Lib.hid (by
            have := hval.out.2.2
            rw [val_take_ge _ _ _ (by omega), val_take_ge _ _ _ (by omega)] at this
            omega)
          clear hown hval hd hend
          go_wp2_with fail
          refine (Rtrim_calls wr u5 ds HD.out).mono ?_
          rintro e w' ⟨v', rfl, hd1, hob, rfl⟩
          rw [HV.out] at hd1
          have HD1 := Lib.hid hd1
          have HOB := Lib.hid hob
          clear hd1 hob
          go_wp2_with fail
          go_ret
          exact ⟨v', rfl, HD1.out, fun b hb => HFR.out b (by rw [← HOB.out]; exact hb), hg⟩

end Go.Proofs.YtmfmfpmkgmkgiaaGreatDoor

namespace Go.Proofs.YtmfmfpmkgmkgiaaGreatDoor
open Go.RowKit Go.Maps
open Rat

theorem minus_step {xs ys ds : List Nat} {k q q' d : Nat} (hl : ds.length = k) (h : val 65536 (xs.take k) + 65536 ^ k * q = val 65536 ds + val 65536 (ys.take k)) (hs : xs.getD k 0 + 65536 * q' = d + q + ys.getD k 0) :
    val 65536 (xs.take (k + 1)) + 65536 ^ (k + 1) * q' = val 65536 (ds ++ [d]) + val 65536 (ys.take (k + 1)) := by
  rw [val_append, hl, val_take_succ, val_take_succ, Nat.pow_succ]
  simp only [val, Nat.mul_zero, Nat.add_zero]
  generalize 65536 ^ k = p at *
  have e : p * xs.getD k 0 + p * 65536 * q' = p * d + p * q + p * ys.getD k 0 := by rw [Nat.mul_assoc, ← Nat.mul_add, hs, Nat.mul_add, Nat.mul_add]
  omega

set_option maxRecDepth 100000 in
set_option maxHeartbeats 40000000 in
theorem Mminus_calls (w : World) (v1 v2 : Value) (xs ys : List Nat) (hx : D16 w v1 xs) (hy : D16 w v2 ys) (lx : xs.length ≤ 1099511627776) (ly : ys.length ≤ xs.length) (hge : val 65536 ys ≤ val 65536 xs) :
    Calls Tryz.prog 175 #[v1, v2] w fun e w' => ∃ v', e = .returned v' ∧ D16 w' v' (dig 65536 (val 65536 xs - val 65536 ys)) ∧ From w.heap.size v' ∧ w.grownBy w' none := by
  obtain ⟨A1, c1, rfl, _⟩ := hx.ctor
  obtain ⟨A2, c2, rfl, _⟩ := hy.ctor
  have HX := Lib.hid hx
  have HY := Lib.hid hy
  have HGE := Lib.hid hge
  clear hx hy hge
  go_enter Tryz.func175, Tryz.ntmps175
  go_wp2_with fail
  go_loopw [5, 6, 7] (fun bv cv i wr => ∃ (k q : Nat) (ds : List Nat), k ≤ xs.length ∧ q ≤ 1 ∧ i = .int .i64 k ∧ cv = .int .i64 q ∧ w.grownBy wr none ∧ Hid (OwnQ wr w.heap.size 3 1 bv k (i64s ds)) ∧ Hid ((∀ d ∈ ds, d < 65536) ∧ ds.length = k ∧ val 65536 (xs.take k) + 65536 ^ k * q = val 65536 ds + val 65536 (ys.take k))) (fun _ _ i _ => (xs.length - intOf i).toNat)
  case atStart => exact ⟨0, 0, [], by omega, by omega, rfl, rfl, gb_refl _ _, Lib.hid (OwnQ.nil _ _ _ _), Lib.hid ⟨by simp, rfl, by simp [val]⟩⟩
  case round =>
    obtain ⟨k, q, ds, hk, hq, rfl, rfl, hg, hown, hval⟩ := hrel
    by_cases a1 : k < xs.length
    · obtain ⟨b1, o1, rfl, u1, lx1⟩ := (HX.out.more hg).at a1
      generalize hxk : xs.getD k 0 = x at *
      by_cases a2 : k < ys.length
      · obtain ⟨b2, o2, rfl, u2, ly1⟩ := (HY.out.more hg).at a2
        generalize hyk : ys.getD k 0 = y at *
        by_cases hneg : (x : Int) - (q : Int) - (y : Int) < 0
        · obtain ⟨d, hS⟩ : ∃ d : Nat, (x : Int) - (q : Int) - (y : Int) + 65536 = (d : Int) := ⟨((x : Int) - (q : Int) - (y : Int) + 65536).toNat, by omega⟩
          have hd : d < 65536 := by omega
          have HSUM : Hid (xs.getD k 0 + 65536 * 1 = d + q + ys.getD k 0) := Lib.hid (by rw [hxk, hyk]; omega)
          clear hxk hyk
          have HLT := Lib.hid a1
          have hs1 := hg.size
          have HG := Lib.hid hg
          have HD := Lib.hid hd
          clear hg
          go_wp2_with (first
            | (at_builtin; refine app_one_q w.heap.size rfl (.tmp 35) (.tmp 37) 30 3 (.int .i64 0) 1 8 rfl Tryz.underlying30 intinfo rfl (by omega) (by omega) u5 k (i64s ds) #[.int .i64 (d : Int)] (by rfl) hown.out (by rfl) (by rfl) (by simp [Value.oneCell']) (by omega) (by omega) (int1_noD _) int0_noD ?_; intro g cap w3 hown3 hgrow; have H3 := Lib.hid (And.intro hown3 hgrow); clear hown3 hgrow)
            | fail)
          have hlt := HLT.out
          refine ⟨⟨k + 1, 1, ds ++ [d], hlt, by omega, by go_num, by first | rfl | go_num, gb_own (gb_trans HG.out (gb_alloc _ _ _)) (hown.out.more (gb_alloc _ _ _)) H3.out.2, Lib.hid ?_, Lib.hid ⟨?_, ?_, ?_⟩⟩, by simp [intOf]; omega⟩
          · have := H3.out.1
            unfold i64s at *
            rw [List.map_append]
            simpa using this
          · intro e he
            rcases List.mem_append.1 he with he | he
            · exact hval.out.1 e he
            · simp at he; have := HD.out; omega
          · rw [List.length_append, hval.out.2.1]; rfl
          · exact minus_step hval.out.2.1 hval.out.2.2 HSUM.out
        · obtain ⟨d, hS⟩ : ∃ d : Nat, (x : Int) - (q : Int) - (y : Int) = (d : Int) := ⟨((x : Int) - (q : Int) - (y : Int)).toNat, by omega⟩
          have hd : d < 65536 := by omega
          have HSUM : Hid (xs.getD k 0 + 65536 * 0 = d + q + ys.getD k 0) := Lib.hid (by rw [hxk, hyk]; omega)
          rw [hS] at hneg
          clear hxk hyk
          have HLT := Lib.hid a1
          have hs1 := hg.size
          have HG := Lib.hid hg
          have HD := Lib.hid hd
          clear hg
          go_wp2_with (first
            | (at_builtin; refine app_one_q w.heap.size rfl (.tmp 35) (.tmp 37) 30 3 (.int .i64 0) 1 8 rfl Tryz.underlying30 intinfo rfl (by omega) (by omega) u5 k (i64s ds) #[.int .i64 (d : Int)] (by rfl) hown.out (by rfl) (by rfl) (by simp [Value.oneCell']) (by omega) (by omega) (int1_noD _) int0_noD ?_; intro g cap w3 hown3 hgrow; have H3 := Lib.hid (And.intro hown3 hgrow); clear hown3 hgrow)
            | fail)
          have hlt := HLT.out
          refine ⟨⟨k + 1, 0, ds ++ [d], hlt, by omega, by go_num, by first | rfl | go_num, gb_own (gb_trans HG.out (gb_alloc _ _ _)) (hown.out.more (gb_alloc _ _ _)) H3.out.2, Lib.hid ?_, Lib.hid ⟨?_, ?_, ?_⟩⟩, by simp [intOf]; omega⟩
          · have := H3.out.1
            unfold i64s at *
            rw [List.map_append]
            simpa using this
          · intro e he
            rcases List.mem_append.1 he with he | he
            · exact hval.out.1 e he
            · simp at he; have := HD.out; omega
          · rw [List.length_append, hval.out.2.1]; rfl
          · exact minus_step hval.out.2.1 hval.out.2.2 HSUM.out
      · have hyk := getD_out a2
        by_cases hneg : (x : Int) - (q : Int) < 0
        · obtain ⟨d, hS⟩ : ∃ d : Nat, (x : Int) - (q : Int) + 65536 = (d : Int) := ⟨((x : Int) - (q : Int) + 65536).toNat, by omega⟩
          have hd : d < 65536 := by omega
          have HSUM : Hid (xs.getD k 0 + 65536 * 1 = d + q + ys.getD k 0) := Lib.hid (by rw [hxk, hyk]; omega)
          clear hxk hyk
          have HLT := Lib.hid a1
          have hs1 := hg.size
          have HG := Lib.hid hg
          have HD := Lib.hid hd
          clear hg
          go_wp2_with (first
            | (at_builtin; refine app_one_q w.heap.size rfl (.tmp 35) (.tmp 37) 30 3 (.int .i64 0) 1 8 rfl Tryz.underlying30 intinfo rfl (by omega) (by omega) u5 k (i64s ds) #[.int .i64 (d : Int)] (by rfl) hown.out (by rfl) (by rfl) (by simp [Value.oneCell']) (by omega) (by omega) (int1_noD _) int0_noD ?_; intro g cap w3 hown3 hgrow; have H3 := Lib.hid (And.intro hown3 hgrow); clear hown3 hgrow)
            | fail)
          have hlt := HLT.out
          refine ⟨⟨k + 1, 1, ds ++ [d], hlt, by omega, by go_num, by first | rfl | go_num, gb_own (gb_trans HG.out (gb_alloc _ _ _)) (hown.out.more (gb_alloc _ _ _)) H3.out.2, Lib.hid ?_, Lib.hid ⟨?_, ?_, ?_⟩⟩, by simp [intOf]; omega⟩
          · have := H3.out.1
            unfold i64s at *
            rw [List.map_append]
            simpa using this
          · intro e he
            rcases List.mem_append.1 he with he | he
            · exact hval.out.1 e he
            · simp at he; have := HD.out; omega
          · rw [List.length_append, hval.out.2.1]; rfl
          · exact minus_step hval.out.2.1 hval.out.2.2 HSUM.out
        · obtain ⟨d, hS⟩ : ∃ d : Nat, (x : Int) - (q : Int) = (d : Int) := ⟨((x : Int) - (q : Int)).toNat, by omega⟩
          have hd : d < 65536 := by omega
          have HSUM : Hid (xs.getD k 0 + 65536 * 0 = d + q + ys.getD k 0) := Lib.hid (by rw [hxk, hyk]; omega)
          rw [hS] at hneg
          clear hxk hyk
          have HLT := Lib.hid a1
          have hs1 := hg.size
          have HG := Lib.hid hg
          have HD := Lib.hid hd
          clear hg
          go_wp2_with (first
            | (at_builtin; refine app_one_q w.heap.size rfl (.tmp 35) (.tmp 37) 30 3 (.int .i64 0) 1 8 rfl Tryz.underlying30 intinfo rfl (by omega) (by omega) u5 k (i64s ds) #[.int .i64 (d : Int)] (by rfl) hown.out (by rfl) (by rfl) (by simp [Value.oneCell']) (by omega) (by omega) (int1_noD _) int0_noD ?_; intro g cap w3 hown3 hgrow; have H3 := Lib.hid (And.intro hown3 hgrow); clear hown3 hgrow)
            | fail)
          have hlt := HLT.out
          refine ⟨⟨k + 1, 0, ds ++ [d], hlt, by omega, by go_num, by first | rfl | go_num, gb_own (gb_trans HG.out (gb_alloc _ _ _)) (hown.out.more (gb_alloc _ _ _)) H3.out.2, Lib.hid ?_, Lib.hid ⟨?_, ?_, ?_⟩⟩, by simp [intOf]; omega⟩
          · have := H3.out.1
            unfold i64s at *
            rw [List.map_append]
            simpa using this
          · intro e he
            rcases List.mem_append.1 he with he | he
            · exact hval.out.1 e he
            · simp at he; have := HD.out; omega
          · rw [List.length_append, hval.out.2.1]; rfl
          · exact minus_step hval.out.2.1 hval.out.2.2 HSUM.out
    · obtain rfl : k = xs.length := by omega
      have hd : D16 wr u5 ds := hown.out.d16 hval.out.2.1.symm hval.out.1
      have HD := Lib.hid hd
      have HFR := Lib.hid hown.out.from
      have HV : Hid (val 65536 ds = val 65536 xs - val 65536 ys) := Lib.hid (by
        obtain ⟨h1, h2, h3⟩ := hval.out
        rw [List.take_length, val_take_ge _ _ _ ly] at h3
        have h4 := val_lt 65536 ds h1
        rw [h2] at h4
        have h5 := HGE.out
        have h6 : q = 0 ∨ q = 1 := by omega
        rcases h6 with h6 | h6
        · rw [h6] at h3; omega
        · rw [h6] at h3; omega)
      clear hown hval hd
      go_wp2_with fail
      refine (Rtrim_calls wr u5 ds HD.out).mono ?_
      rintro e w' ⟨v', rfl, hd1, hob, rfl⟩
      rw [HV.out] at hd1
      have HD1 := Lib.hid hd1
      have HOB := Lib.hid hob
      clear hd1 hob
      go_wp2_with fail
      go_ret
      exact ⟨v', rfl, HD1.out, fun b hb => HFR.out b (by rw [← HOB.out]; exact hb), hg⟩

end Go.Proofs.YtmfmfpmkgmkgiaaGreatDoor
