/- Contracts of the program's functions, and what they rest on: StA RefA RefC. -/
import Derived.Test.YtmfmfpmkgmkgiaaGreatDoorMaj
import Derived.Maps.AppendAt
import Derived.Deep.AppendLies
import Derived.Deep.RegionHeld3
import Derived.Test.YtmfmfpmkgmkgiaaGreatDoorMam
import Derived.Test.YtmfmfpmkgmkgiaaGreatDoorMaa
set_option linter.unusedVariables false
set_option linter.unusedSimpArgs false
namespace Go.Proofs.YtmfmfpmkgmkgiaaGreatDoor
open Go.RowKit Go.Maps
open Rat
def NoD (l : List Value) : Prop := ∀ u ∈ l, ∀ n, u ≠ .int .u32 n
def OwnQ (w : World) (base : Nat) (e : TypeId) (size : Nat) (v : Value) (n : Nat) (xs : List Value) : Prop :=
  w.ownsRow base e size v n xs ∧ ∀ g, v.ownBlock = some g → Plain w g
theorem OwnQ.nil (w : World) (base : Nat) (e : TypeId) (size : Nat) : OwnQ w base e size (.slice none 0 0) 0 [] := ⟨World.ownsRow_nil _ _ _ _, fun g h => by simp [Value.ownBlock] at h⟩
theorem plain_of_heap {w : World} {g : Nat} {cs : Array Value} {T : TypeId} {fr : Nat × Nat} (h : w.heap[g]? = some (.cells cs T fr)) (hn : NoD cs.toList) : Plain w g := by
  intro o n he
  rw [cell_of_heap h] at he
  have : (Value.int .u32 n) ∈ cs.toList := by
    obtain ⟨ho, hv⟩ := Array.getElem?_eq_some_iff.1 he
    rw [← hv]; simp
  exact hn _ this n rfl
theorem noD_of_plain {w : World} {g : Nat} {cs : Array Value} {T : TypeId} {fr : Nat × Nat} (h : w.heap[g]? = some (.cells cs T fr)) (hp : Plain w g) : NoD cs.toList := by
  intro u hu n he
  subst he
  obtain ⟨i, hi, hv⟩ := List.mem_iff_getElem.1 hu
  refine hp i n ?_
  rw [cell_of_heap h]
  rw [Array.getElem?_eq_some_iff]
  exact ⟨by simpa using hi, by simpa using hv⟩
theorem NoD.append {l r : List Value} (h : NoD l) (k : NoD r) : NoD (l ++ r) := fun u hu => by
  rcases List.mem_append.1 hu with hu | hu
  · exact h u hu
  · exact k u hu
theorem NoD.zero {z : Array Value} (h : NoD z.toList) (n : Nat) : NoD (Builtin.zeroCells z n).toList := by
  intro u hu
  simp [Builtin.zeroCells] at hu
  obtain ⟨k, hk, hu⟩ := hu
  have hs : 0 < z.size := by
    rcases Nat.eq_zero_or_pos z.size with h0 | h0
    · rw [h0] at hk; omega
    · exact h0
  rw [getElem!_pos z _ (Nat.mod_lt k hs)] at hu
  exact h u (by rw [← hu]; simp)
theorem OwnQ.more {w w' : World} {base : Nat} {e : TypeId} {size n : Nat} {v : Value} {xs : List Value} (h : OwnQ w base e size v n xs) (hg : w.grownBy w' none) : OwnQ w' base e size v n xs := by
  refine ⟨h.1.kept hg (by cases v.ownBlock <;> simp), fun g hv => ?_⟩
  have hp := h.2 g hv
  rcases h.1.2 with ⟨rfl, _⟩ | ⟨g', cap, cur, rfl, _, hh, _⟩
  · simp [Value.ownBlock] at hv
  · obtain rfl : g' = g := by simpa [Value.ownBlock] using hv
    exact plain_of_heap (gb_heap hg hh (by simp)) (noD_of_plain hh hp)
theorem OwnQ.other {w w' : World} {base : Nat} {e : TypeId} {size n r : Nat} {v : Value} {xs : List Value} (h : OwnQ w base e size v n xs) (hg : w.grownBy w' (some r)) (hne : v.ownBlock ≠ some r) : OwnQ w' base e size v n xs := by
  refine ⟨h.1.kept hg (.inr hne), fun g hv => ?_⟩
  have hp := h.2 g hv
  rcases h.1.2 with ⟨rfl, _⟩ | ⟨g', cap, cur, rfl, _, hh, _⟩
  · simp [Value.ownBlock] at hv
  · obtain rfl : g' = g := by simpa [Value.ownBlock] using hv
    exact plain_of_heap (gb_heap hg hh (fun e => hne (by rw [hv, e]))) (noD_of_plain hh hp)

theorem run_app_q {P : Program} {w : World} (base : Nat) (t ty e : TypeId) (i : TypeInfo) (z : Value) (size bytes : Nat) (ht : P.underlying t = some (.slice e)) (hi : P.info? e = some i) (hz : i.zero = some z)
    (hsize : i.size = size) (hby : i.bytes = bytes) (hzs : z.cells.size = size) (hsz : 0 < size)
    (v : Value) (n : Nat) (xs : List Value) (hown : OwnQ w base e size v n xs)
    (a : Addr) (news : List Value) (hl : news.length = size) (hnews : ∀ j u, news[j]? = some u → w.cell? (a.add j) = some u) (h1 : ∀ u ∈ news, u.oneCell' = true)
    (hbytes : (n + 1) * bytes ≤ 140737488355328) (hb0 : 0 < bytes) (hbase : base ≤ w.heap.size) (hnd : NoD news) (hzd : NoD z.cells.toList) :
    ∃ v' w', (Builtin.append_ #[t, t] ty #[v, .slice (some a) 1 1]).run P w = .ok v' w' ∧ OwnQ w' base e size v' (n + 1) (xs ++ news) ∧ w.grownBy w' v.ownBlock ∧ (v'.ownBlock = v.ownBlock ∨ v'.ownBlock = some w.heap.size) := by
  have hlen : n + 1 ≤ 140737488355328 := Nat.le_trans (Nat.le_mul_of_pos_right _ hb0) hbytes
  obtain ⟨v', w', hr, h2, h3, _, h5⟩ := run_append_own_at (P := P) w base t ty e i z size bytes ht hi hz hsize hby hzs hsz v n xs hown.1 a 1 1 news (by omega) hnews h1 (by simp only [maxLen]; omega) hbytes hbase
  refine ⟨v', w', hr, ⟨h2, ?_⟩, h3, h5⟩
  intro g hg
  subst hsize hby
  rcases hown.1.2 with ⟨rfl, hn0⟩ | ⟨g0, cap, cur, rfl, hbg, hgh, hnc, hcm, hcs, htake⟩
  · have hx : xs = [] := List.eq_nil_of_length_eq_zero (by have := hown.1.1; rw [hn0] at this; simpa using this)
    subst hn0
    have hr' := run_append_nil (P := P) w t ty e i z ht hi hz a 1 1 news (by omega) hnews (by omega) (by omega) (by omega)
    rw [hr] at hr'
    injection hr' with e1 e2
    subst e1 e2
    obtain rfl : w.heap.size = g := by simpa [Value.ownBlock] using hg
    exact plain_of_heap (heap_alloc_new w.drew _) (by simp only [Array.toList_append]; exact hnd.append (hzd.zero _))
  · have hcd := noD_of_plain hgh (hown.2 g0 rfl)
    by_cases hroom : n + 1 ≤ cap
    · have hfit : n * i.size + news.length ≤ cur.size := by rw [hl, hcs, ← Nat.succ_mul]; exact Nat.mul_le_mul_right _ hroom
      have hr' := run_append_room (P := P) w t ty e i ht hi g0 n cap cur hgh a 1 1 news (by omega) hnews h1 hroom hfit
      rw [hr] at hr'
      injection hr' with e1 e2
      subst e1 e2
      obtain rfl : g0 = g := by simpa [Value.ownBlock] using hg
      refine plain_of_heap (setRow_heap w g0 cur _ e _ hgh) ?_
      simp only []
      exact (NoD.append (fun u hu => hcd u (List.mem_of_mem_take hu)) hnd).append (fun u hu => hcd u (List.mem_of_mem_drop hu))
    · have holds : ∀ j u, xs[j]? = some u → w.cell? ((⟨g0, 0, none⟩ : Addr).add j) = some u := hown.1.cells (g := g0) rfl
      have hr' := run_append_grow (P := P) w t ty e i z ht hi hz ⟨g0, 0, none⟩ n cap xs hown.1.1 holds a 1 1 news (by omega) hnews (by omega) (by omega) (growslice_fits (by omega) hbytes)
      rw [hr] at hr'
      injection hr' with e1 e2
      subst e1 e2
      obtain rfl : w.heap.size = g := by simpa [Value.ownBlock] using hg
      refine plain_of_heap (heap_alloc_new w.drew _) ?_
      simp only [Array.toList_append]
      exact (NoD.append (fun u hu => hcd u (by rw [← htake] at hu; exact List.mem_of_mem_take hu)) hnd).append (hzd.zero _)

/-! ### stamps -/
structure StampP where
  kind : Int
  row : Int
  col : Int
  val : Rat
def StampR (w : World) (cs : List Value) (s : StampP) : Prop :=
  I64 s.kind ∧ I64 s.row ∧ I64 s.col ∧ ∃ A1 n1 c1 A2 n2 c2, cs = [.int .i64 s.kind, .int .i64 s.row, .int .i64 s.col, .bool (decide (s.val.num < 0)), .slice A1 n1 c1, .bool false, .slice A2 n2 c2] ∧
    Nums w (.slice A1 n1 c1) (digs s.val.num) ∧ Nums w (.slice A2 n2 c2) (digs (s.val.den : Int))
def StampsR (w : World) (xs : List Value) : List StampP → Prop
  | [] => xs = []
  | s :: L => ∃ cs rest, xs = cs ++ rest ∧ StampR w cs s ∧ StampsR w rest L
theorem StampsR.snoc {w : World} {cs : List Value} {s : StampP} (hs : StampR w cs s) : ∀ {xs : List Value} {L : List StampP}, StampsR w xs L → StampsR w (xs ++ cs) (L ++ [s])
  | xs, [], h => by
    have : xs = [] := h
    subst this
    exact ⟨cs, [], by simp, hs, rfl⟩
  | xs, t :: L, ⟨c1, rest, e, h1, h2⟩ => ⟨c1, rest ++ cs, by rw [e, List.append_assoc], h1, h2.snoc hs⟩
theorem StampR.other {w w' : World} {cs : List Value} {s : StampP} {r : Nat} (h : StampR w cs s) (hg : w.grownBy w' (some r)) (hp : Plain w r) : StampR w' cs s := by
  obtain ⟨a, b, c, A1, n1, c1, A2, n2, c2, e, h1, h2⟩ := h
  exact ⟨a, b, c, A1, n1, c1, A2, n2, c2, e, h1.other hg hp, h2.other hg hp⟩
theorem StampR.more {w w' : World} {cs : List Value} {s : StampP} (h : StampR w cs s) (hg : w.grownBy w' none) : StampR w' cs s := by
  obtain ⟨a, b, c, A1, n1, c1, A2, n2, c2, e, h1, h2⟩ := h
  exact ⟨a, b, c, A1, n1, c1, A2, n2, c2, e, h1.more hg, h2.more hg⟩
theorem StampsR.imp {w w' : World} (hi : ∀ cs s, StampR w cs s → StampR w' cs s) : ∀ {xs : List Value} {L : List StampP}, StampsR w xs L → StampsR w' xs L
  | _, [], h => h
  | _, _ :: _, ⟨c1, rest, e, h1, h2⟩ => ⟨c1, rest, e, hi _ _ h1, h2.imp hi⟩
theorem StampR.length {w : World} {cs : List Value} {s : StampP} (h : StampR w cs s) : cs.length = 7 := by
  obtain ⟨_, _, _, _, _, _, _, _, _, e, _⟩ := h; rw [e]; rfl
theorem StampR.noD {w : World} {cs : List Value} {s : StampP} (h : StampR w cs s) : NoD cs ∧ ∀ u ∈ cs, u.oneCell' = true := by
  obtain ⟨_, _, _, A1, n1, c1, A2, n2, c2, e, _⟩ := h
  subst e
  constructor
  · intro u hu n
    simp only [List.mem_cons, List.not_mem_nil, or_false] at hu
    rcases hu with rfl | rfl | rfl | rfl | rfl | rfl | rfl <;> simp
  · intro u hu
    simp only [List.mem_cons, List.not_mem_nil, or_false] at hu
    rcases hu with rfl | rfl | rfl | rfl | rfl | rfl | rfl <;> rfl
theorem StampsR.at {w : World} : ∀ {xs : List Value} {L : List StampP}, StampsR w xs L → ∀ i (hi : i < L.length), ∃ cs, StampR w cs L[i] ∧ ∀ j, j < 7 → xs[i * 7 + j]? = cs[j]?
  | _, [], _, i, hi => by simp at hi
  | _, s :: L, ⟨cs, rest, e, h1, h2⟩, 0, hi => ⟨cs, h1, fun j hj => by rw [e, List.getElem?_append_left (by rw [h1.length]; omega)]; congr 1; omega⟩
  | _, s :: L, ⟨cs, rest, e, h1, h2⟩, i + 1, hi => by
    obtain ⟨cs', h3, h4⟩ := h2.at i (by simpa using hi)
    refine ⟨cs', h3, fun j hj => ?_⟩
    rw [e, List.getElem?_append_right (by rw [h1.length]; omega), h1.length, ← h4 j hj]
    congr 1
    omega
theorem StampsR.length {w : World} : ∀ {xs : List Value} {L : List StampP}, StampsR w xs L → xs.length = L.length * 7
  | _, [], h => by have : _ = [] := h; subst this; rfl
  | _, _ :: L, ⟨cs, rest, e, h1, h2⟩ => by rw [e, List.length_append, h1.length, h2.length, List.length_cons]; omega
def put1 (kind r c : Int) (q : Rat) : List StampP := if r < 0 ∨ c < 0 then [] else [⟨kind, r, c, q⟩]

theorem stampinfo : (Tryz.prog.info? 111).map (fun i => (i.zero, i.size, i.bytes)) = some (some (.agg #[.int .i64 0, .int .i64 0, .int .i64 0, .bool false, .slice none 0 0, .bool false, .slice none 0 0]), 7, 88) := by kernel_rfl
theorem OwnQ.form {w : World} {base : Nat} {e : TypeId} {size n : Nat} {v : Value} {xs : List Value} (h : OwnQ w base e size v n xs) : ∃ A c, v = .slice A n c := by
  rcases h.1.2 with ⟨rfl, h0⟩ | ⟨g, cap, cur, rfl, _⟩
  · exact ⟨none, 0, by rw [h0]⟩
  · exact ⟨_, _, rfl⟩
theorem OwnQ.row_plain {w : World} {base : Nat} {e : TypeId} {size n : Nat} {v : Value} {xs : List Value} (h : OwnQ w base e size v n xs) : ∀ r, v.ownBlock = some r → Plain w r := h.2
theorem Nums.row {w w' : World} {v : Value} {xs : List Nat} {row : Option Nat} (h : Nums w v xs) (hg : w.grownBy w' row) (hp : ∀ r, row = some r → Plain w r) : Nums w' v xs := by
  cases row with
  | none => exact h.more hg
  | some r => exact h.other hg (hp r rfl)
theorem StampR.row {w w' : World} {cs : List Value} {s : StampP} {row : Option Nat} (h : StampR w cs s) (hg : w.grownBy w' row) (hp : ∀ r, row = some r → Plain w r) : StampR w' cs s := by
  cases row with
  | none => exact h.more hg
  | some r => exact h.other hg (hp r rfl)
theorem RatB.row {w w' : World} {b : Nat} {q : Rat} {row : Option Nat} (h : RatB w b q) (hg : w.grownBy w' row) (hp : ∀ r, row = some r → Plain w r) (hne : ∀ r, row = some r → b ≠ r) : RatB w' b q := by
  cases row with
  | none => exact h.more hg
  | some r => exact h.other hg (hp r rfl) (hne r rfl)
theorem Blk.row {w w' : World} {b : Nat} {cs : Array Value} {row : Option Nat} (h : Blk w b cs) (hg : w.grownBy w' row) (hne : row ≠ some b) : Blk w' b cs := by
  obtain ⟨T, h⟩ := h; exact ⟨T, gb_heap hg h (fun e => hne e.symm)⟩
theorem RatB.four {w : World} {b : Nat} {q : Rat} (h : RatB w b q) : ∃ cs T, cs.size = 4 ∧ w.heap[b]? = some (.cells cs T (0, 0)) := by
  obtain ⟨v1, v2, d, T, _, hb, _⟩ := h
  exact ⟨_, T, rfl, hb⟩
theorem RatB.ne_own {w : World} {b : Nat} {q : Rat} (h : RatB w b q) {base : Nat} {e : TypeId} {n : Nat} {v : Value} {xs : List Value} (ho : OwnQ w base e 7 v n xs) : ∀ r, v.ownBlock = some r → b ≠ r := by
  intro r hr hbr
  subst hbr
  obtain ⟨cs, T, h4, hb⟩ := h.four
  rcases ho.1.2 with ⟨rfl, _⟩ | ⟨g, cap, cur, rfl, _, hh, _, _, hcs, _⟩
  · simp [Value.ownBlock] at hr
  · obtain rfl : g = b := by simpa [Value.ownBlock] using hr
    rw [hb] at hh
    injection hh with hh
    injection hh with e1 e2 e3
    subst e1
    omega
theorem RatB.ne_blk {w : World} {b p : Nat} {q : Rat} (h : RatB w b q) {cs : Array Value} (hp : Blk w p cs) (hs : cs.size ≠ 4) : b ≠ p := by
  intro e
  subst e
  obtain ⟨cs', T, h4, hb⟩ := h.four
  obtain ⟨T', hp⟩ := hp
  rw [hb] at hp
  injection hp with hp
  injection hp with e1 e2 e3
  subst e1
  exact hs h4
theorem step_call1 {P : Program} {w : World} {ops : Array Oper} {o : Oper} {a : Act} {K : Act → World → Prop} {Q : Exit → Act → World → Prop} {E : Prop} (hgd : o.guard = none) (f : FuncId) (x : Operand) (ty : TypeId)
    (ho : o.op = .call { callee := .value (.func f), args := #[x], argTypes := #[ty] }) (u : Value) (hu : a.eval x = u)
    (henter : ∀ args w, (callFunc f args).run P w = .ok (.enter f args) w)
    (R : Value → World → Prop) (hC : Calls P f #[u] w fun e w' => ∃ v, e = .returned v ∧ R v w') (hK : ∀ v w', R v w' → K (a.put o.dst v) w') :
    if Region.wanted o (yielded ops a.tmps) = true then Oper.wp P o a w K Q else E := by
  have hw : Region.wanted o (yielded ops a.tmps) = true := by simp [Region.wanted, hgd]
  rw [if_pos hw]
  have hf : a.eval (.func f) = .func (.func f) #[] #[] := rfl
  have hrun : (execOp a.eval o).run P w = .ok (.enter f #[u]) w := by
    generalize a.eval = ev at *
    simp [execOp, ho, resolve, invoke, hu, hf, henter, go_sem]
  unfold Oper.wp
  rw [hrun]
  simp only [Oper.upon]
  refine hC.mono ?_
  rintro e w' ⟨v, rfl, hr⟩
  exact hK v w' hr
theorem run_app_q1 {P : Program} {w : World} (base : Nat) (t ty e : TypeId) (z : Value) (size bytes : Nat) (ht : P.underlying t = some (.slice e)) (hinfo : (P.info? e).map (fun i => (i.zero, i.size, i.bytes)) = some (some z, size, bytes)) (hzs : z.cells.size = size) (hsz : 0 < size) (hb0 : 0 < bytes)
    (v : Value) (n : Nat) (xs : List Value) (hown : OwnQ w base e size v n xs)
    (B : Nat) (ys : Array Value) (T : TypeId) (fr : Nat × Nat) (hB : w.heap[B]? = some (.cells ys T fr)) (hl : ys.toList.length = size) (h1 : ∀ u ∈ ys.toList, u.oneCell' = true)
    (hbytes : (n + 1) * bytes ≤ 140737488355328) (hbase : base ≤ w.heap.size) (hnd : NoD ys.toList) (hzd : NoD z.cells.toList) :
    ∃ g cap w', (Builtin.append_ #[t, t] ty #[v, .slice (some ⟨B, 0, none⟩) 1 1]).run P w = .ok (.slice (some ⟨g, 0, none⟩) (n + 1) cap) w' ∧ OwnQ w' base e size (.slice (some ⟨g, 0, none⟩) (n + 1) cap) (n + 1) (xs ++ ys.toList) ∧ w.grownBy w' v.ownBlock ∧ (v.ownBlock = some g ∨ g = w.heap.size) := by
  obtain ⟨i, hi, hzz⟩ := Option.map_eq_some_iff.1 hinfo
  simp only [Prod.mk.injEq] at hzz
  obtain ⟨hz0, hz1, hz2⟩ := hzz
  obtain ⟨v', w', hr, h2, h3, h4⟩ := run_app_q (P := P) (w := w) base t ty e i z size bytes ht hi hz0 hz1 hz2 hzs hsz v n xs hown ⟨B, 0, none⟩ ys.toList hl (World.news_of_block hB) h1 hbytes hb0 hbase hnd hzd
  rcases h2.1.2 with ⟨_, h0⟩ | ⟨g, cap, cur, rfl, _⟩
  · omega
  · refine ⟨g, cap, w', hr, h2, h3, ?_⟩
    simp only [Value.ownBlock] at h4
    rcases h4 with h4 | h4
    · exact .inl (by simpa [Value.ownBlock] using h4.symm)
    · exact .inr (by simpa using h4)
theorem app_one_q {P : Program} {W : World} {ops : Array Oper} {rest : List Oper} {o : Oper} {a : Act} {Q : Exit → Act → World → Prop} (base : Nat) (hgd : o.guard = none) (s x : Operand) (t e : TypeId) (z : Value) (size bytes : Nat)
    (ho : o.op = .call { callee := .builtin .append, args := #[s, x], argTypes := #[t, t] })
    (ht : P.underlying t = some (.slice e)) (hinfo : (P.info? e).map (fun i => (i.zero, i.size, i.bytes)) = some (some z, size, bytes)) (hzs : z.cells.size = size) (hsz : 0 < size) (hb0 : 0 < bytes)
    (v : Value) (n : Nat) (xs : List Value) (ys : Array Value) (hs : a.eval s = v) (HO : OwnQ W base e size v n xs)
    (hx : a.eval x = .slice (some ⟨W.heap.size, 0, none⟩) 1 1) (hl : ys.toList.length = size) (h1 : ∀ u ∈ ys.toList, u.oneCell' = true)
    (hbytes : (n + 1) * bytes ≤ 140737488355328) (hbase : base ≤ W.heap.size) (hnd : NoD ys.toList) (hzd : NoD z.cells.toList)
    (h : ∀ g cap w1, OwnQ w1 base e size (.slice (some ⟨g, 0, none⟩) (n + 1) cap) (n + 1) (xs ++ ys.toList) → (W.alloc (.cells ys e)).grownBy w1 v.ownBlock → wpList P ops Q rest (a.put o.dst (.slice (some ⟨g, 0, none⟩) (n + 1) cap)) w1) :
    wpList P ops Q (o :: rest) a (W.alloc (.cells ys e)) := by
  obtain ⟨g, cap, w1, hr, h2, h3, _⟩ := run_app_q1 (P := P) (w := W.alloc (.cells ys e)) base t o.type e z size bytes ht hinfo hzs hsz hb0 v n xs (HO.more (gb_alloc _ _ _)) W.heap.size ys e (0, 0) (heap_alloc_new _ _) hl h1 hbytes (by rw [World.size_alloc]; omega) hnd hzd
  refine wpList_plain hgd fun K hK => ?_
  unfold Oper.wp execOp
  simp only [ho, resolve, invoke, builtin, Sem.run_bind, Sem.run_pure, Result.andThen_ok, List.map_toArray, List.map_cons, List.map_nil, hs, hx, hr]
  exact hK _ _ (h g cap w1 h2 h3)
theorem step_app_q {P : Program} {w : World} {ops : Array Oper} {o : Oper} {a : Act} {K : Act → World → Prop} {Q : Exit → Act → World → Prop} {E : Prop} (hgd : o.guard = none) (s x : Operand) (t : TypeId)
    (ho : o.op = .call { callee := .builtin .append, args := #[s, x], argTypes := #[t, t] })
    (base : Nat) (e : TypeId) (z : Value) (size bytes : Nat) (ht : P.underlying t = some (.slice e)) (hinfo : (P.info? e).map (fun i => (i.zero, i.size, i.bytes)) = some (some z, size, bytes)) (hzs : z.cells.size = size) (hsz : 0 < size) (hb0 : 0 < bytes)
    (v : Value) (n : Nat) (xs : List Value) (hs : a.eval s = v) (hown : OwnQ w base e size v n xs)
    (B : Nat) (ys : Array Value) (T : TypeId) (fr : Nat × Nat) (hB : w.heap[B]? = some (.cells ys T fr)) (hx : a.eval x = .slice (some ⟨B, 0, none⟩) 1 1) (hl : ys.toList.length = size) (h1 : ∀ u ∈ ys.toList, u.oneCell' = true)
    (hbytes : (n + 1) * bytes ≤ 140737488355328) (hbase : base ≤ w.heap.size) (hnd : NoD ys.toList) (hzd : NoD z.cells.toList)
    (h : ∀ g cap w', OwnQ w' base e size (.slice (some ⟨g, 0, none⟩) (n + 1) cap) (n + 1) (xs ++ ys.toList) → w.grownBy w' v.ownBlock → (v.ownBlock = some g ∨ g = w.heap.size) → K (a.put o.dst (.slice (some ⟨g, 0, none⟩) (n + 1) cap)) w') :
    if Region.wanted o (yielded ops a.tmps) = true then Oper.wp P o a w K Q else E := by
  have hw : Region.wanted o (yielded ops a.tmps) = true := by simp [Region.wanted, hgd]
  rw [if_pos hw]
  obtain ⟨i, hi, hzz⟩ := Option.map_eq_some_iff.1 hinfo
  simp only [Prod.mk.injEq] at hzz
  obtain ⟨hz0, hz1, hz2⟩ := hzz
  obtain ⟨v', w', hr, h2, h3, h4⟩ := run_app_q (P := P) (w := w) base t o.type e i z size bytes ht hi hz0 hz1 hz2 hzs hsz v n xs hown ⟨B, 0, none⟩ ys.toList hl (World.news_of_block hB) h1 hbytes hb0 hbase hnd hzd
  unfold Oper.wp execOp
  simp only [ho, resolve, invoke, builtin, Sem.run_bind, Sem.run_pure, Result.andThen_ok, List.map_toArray, List.map_cons, List.map_nil, hs, hx, hr]
  rcases h2.1.2 with ⟨_, h0⟩ | ⟨g, cap, cur, rfl, _⟩
  · omega
  · refine h g cap w' h2 h3 ?_
    simp only [Value.ownBlock] at h4
    rcases h4 with h4 | h4
    · exact .inl (by simpa [Value.ownBlock] using h4.symm)
    · exact .inr (by simpa using h4)
structure PenS (W0 w : World) (pb : Nat) (d : DevP) (An : Option Addr) (cn : Nat) (Av : Option Addr) (cv : Nat) (As : Option Addr) (cs : Nat) (Ag : Option Addr) (cg : Nat) (Am : Option Addr) (cm : Nat) (br : List Int) (k : Int) (L : List StampP) : Prop where
  base : W0.heap.size ≤ pb
  grown : W0.grownBy w none
  dev : DevAt W0 d An cn Av cv As cs Ag cg Am cm
  pen : ∃ Ab nb cb lv xs, Row W0 (.slice Ab nb cb) (ints br) ∧ Blk w pb #[.int .u8 d.kind, .string d.name, .slice An d.nodes.length cn, .int .i64 d.ref, .int .i64 d.val.1, .int .i64 d.val.2, .int .i64 d.wkind, .slice Av d.wvals.length cv, .slice As d.wsteps.length cs, .string d.mname, .int .u8 d.mkind, .slice Ag d.mg.length cg, .slice Am d.mv.length cm, .slice Ab nb cb, .int .i64 k, lv] ∧ OwnQ w W0.heap.size 111 7 lv L.length xs ∧ StampsR w xs L ∧ lv.ownBlock ≠ some pb

theorem pen_plain {w : World} {pb : Nat} {d : DevP} {An Av As Ag Am Ab : Option Addr} {cn cv cs cg cm nb cb : Nat} {k : Int} {A : Option Addr} {n c : Nat} (h : Blk w pb #[.int .u8 d.kind, .string d.name, .slice An d.nodes.length cn, .int .i64 d.ref, .int .i64 d.val.1, .int .i64 d.val.2, .int .i64 d.wkind, .slice Av d.wvals.length cv, .slice As d.wsteps.length cs, .string d.mname, .int .u8 d.mkind, .slice Ag d.mg.length cg, .slice Am d.mv.length cm, .slice Ab nb cb, .int .i64 k, .slice A n c]) : Plain w pb := by
  obtain ⟨T, h⟩ := h
  refine plain_of_heap h ?_
  intro u hu n
  simp only [List.mem_cons, List.not_mem_nil, or_false] at hu
  rcases hu with rfl | rfl | rfl | rfl | rfl | rfl | rfl | rfl | rfl | rfl | rfl | rfl | rfl | rfl | rfl | rfl <;> simp

theorem stampzero_noD : NoD (Value.agg #[.int .i64 0, .int .i64 0, .int .i64 0, .bool false, .slice none 0 0, .bool false, .slice none 0 0]).cells.toList := by
  intro u hu n
  simp [Value.cells] at hu
  rcases hu with rfl | rfl | rfl | rfl | rfl <;> simp
def Keeps (w w' : World) : Prop := (∀ b q, RatB w b q → RatB w' b q) ∧ (∀ b (cs : Array Value), cs.size = 4 → Blk w b cs → Blk w' b cs) ∧ ∀ v xs, Nums w v xs → Nums w' v xs
theorem Keeps.refl (w : World) : Keeps w w := ⟨fun _ _ h => h, fun _ _ _ h => h, fun _ _ h => h⟩
theorem Keeps.trans {a b c : World} (h : Keeps a b) (k : Keeps b c) : Keeps a c := ⟨fun x q hx => k.1 x q (h.1 x q hx), fun x cs h4 hx => k.2.1 x cs h4 (h.2.1 x cs h4 hx), fun v xs hx => k.2.2 v xs (h.2.2 v xs hx)⟩
theorem Keeps.more {a b : World} (h : a.grownBy b none) : Keeps a b := ⟨fun _ _ hx => hx.more h, fun _ _ _ hx => hx.more h, fun _ _ hx => hx.more h⟩
theorem blk_eq {w : World} {b : Nat} {cs ds : Array Value} (h : Blk w b cs) (k : Blk w b ds) : cs = ds := by
  obtain ⟨T, h⟩ := h
  obtain ⟨T', k⟩ := k
  rw [h] at k
  injection k with k
  injection k
theorem blk4_own {w : World} {b : Nat} {cs : Array Value} (h : Blk w b cs) (h4 : cs.size = 4) {base : Nat} {e : TypeId} {n : Nat} {v : Value} {xs : List Value} (ho : OwnQ w base e 7 v n xs) : v.ownBlock ≠ some b := by
  intro hr
  obtain ⟨T, hb⟩ := h
  rcases ho.1.2 with ⟨rfl, _⟩ | ⟨g, cap, cur, rfl, _, hh, _, _, hcs, _⟩
  · simp [Value.ownBlock] at hr
  · obtain rfl : g = b := by simpa [Value.ownBlock] using hr
    rw [hb] at hh
    injection hh with hh
    injection hh with e1 e2 e3
    subst e1
    omega
theorem put_end {W0 w w1 w3 : World} {pb : Nat} {d : DevP} {An Av As Ag Am Ab : Option Addr} {cn cv cs cg cm nb cb : Nat} {br : List Int} {k : Int} {L : List StampP} {A : Option Addr} {c g cap : Nat} {xs : List Value} {s : StampP} {ys : Array Value} {T : TypeId}
    (hbase : W0.heap.size ≤ pb) (hgr : W0.grownBy w none) (hdev : DevAt W0 d An cn Av cv As cs Ag cg Am cm) (hbr : Row W0 (.slice Ab nb cb) (ints br)) (hown : OwnQ w W0.heap.size 111 7 (.slice A L.length c) L.length xs) (hst : StampsR w xs L) (hne : (Value.slice A L.length c).ownBlock ≠ some pb)
    (hblk : Blk w pb #[.int .u8 d.kind, .string d.name, .slice An d.nodes.length cn, .int .i64 d.ref, .int .i64 d.val.1, .int .i64 d.val.2, .int .i64 d.wkind, .slice Av d.wvals.length cv, .slice As d.wsteps.length cs, .string d.mname, .int .u8 d.mkind, .slice Ag d.mg.length cg, .slice Am d.mv.length cm, .slice Ab nb cb, .int .i64 k, .slice A L.length c])
    (hgw1 : w.grownBy w1 none) (hsr : StampR w1 ys.toList s)
    (hblk3 : Blk w3 pb #[.int .u8 d.kind, .string d.name, .slice An d.nodes.length cn, .int .i64 d.ref, .int .i64 d.val.1, .int .i64 d.val.2, .int .i64 d.wkind, .slice Av d.wvals.length cv, .slice As d.wsteps.length cs, .string d.mname, .int .u8 d.mkind, .slice Ag d.mg.length cg, .slice Am d.mv.length cm, .slice Ab nb cb, .int .i64 k, .slice A L.length c])
    (hown3 : OwnQ w3 W0.heap.size 111 7 (.slice (some ⟨g, 0, none⟩) (L.length + 1) cap) (L.length + 1) (xs ++ ys.toList))
    (hgrow : (w1.alloc (.cells ys T)).grownBy w3 (Value.slice A L.length c).ownBlock) (hat : (Value.slice A L.length c).ownBlock = some g ∨ g = (w1.alloc (.cells ys T)).heap.size) :
    PenS W0 (w3.setCell ⟨pb, 15, none⟩ (.slice (some ⟨g, 0, none⟩) (L.length + 1) cap)) pb d An cn Av cv As cs Ag cg Am cm br k (L ++ [s]) ∧ Keeps w (w3.setCell ⟨pb, 15, none⟩ (.slice (some ⟨g, 0, none⟩) (L.length + 1) cap)) := by
  have ga := gb_trans hgw1 (gb_alloc w1 (.cells ys T) none)
  have howna := hown.more ga
  have hlt := hblk.lt
  have hgp : g ≠ pb := by
    rcases hat with h | h
    · intro e; subst e; exact hne h
    · have := hgw1.size; rw [h, World.size_alloc]; omega
  have hpl := pen_plain hblk3
  refine ⟨⟨hbase, gb_new (gb_from (gb_trans hgr ga) hgrow (own_from hown.1)) (gb_set _ _ _ _) hbase, hdev, Ab, nb, cb, .slice (some ⟨g, 0, none⟩) (L.length + 1) cap, xs ++ ys.toList, hbr, ?_, ?_, ?_, ?_⟩, ?_⟩
  · exact hblk3.set 15 _
  · have := hown3.other (gb_set w3 pb 15 (.slice (some ⟨g, 0, none⟩) (L.length + 1) cap)) (by simp [Value.ownBlock]; exact hgp)
    simpa using this
  · refine StampsR.snoc ?_ ?_
    · exact ((hsr.more (gb_alloc _ _ _)).row hgrow (howna.row_plain)).other (gb_set _ _ _ _) hpl
    · exact hst.imp fun cs s h => ((h.more ga).row hgrow (howna.row_plain)).other (gb_set _ _ _ _) hpl
  · simp [Value.ownBlock]; exact hgp
  · refine ⟨fun b q hx => ?_, fun b cs h4 hx => ?_, fun v xs hx => ?_⟩
    · have h1 := hx.more ga
      have h3 := h1.row hgrow howna.row_plain (h1.ne_own howna)
      exact h3.other (gb_set _ _ _ _) hpl (h3.ne_blk hblk3 (by simp))
    · have h1 := hx.more ga
      have h3 := h1.row hgrow (blk4_own h1 h4 howna)
      refine h3.row (gb_set _ _ _ _) fun e => ?_
      injection e with e
      subst e
      have := congrArg Array.size (blk_eq h3 hblk3)
      rw [h4] at this
      simp at this
    · exact ((hx.more ga).row hgrow howna.row_plain).other (gb_set _ _ _ _) hpl

end Go.Proofs.YtmfmfpmkgmkgiaaGreatDoor

namespace Go.Proofs.YtmfmfpmkgmkgiaaGreatDoor
open Go.RowKit
open Rat

set_option maxRecDepth 100000 in
set_option maxHeartbeats 40000000 in
theorem RRight_calls (w : World) (neg : Bool) (v : Value) (xs : List Nat) (hx : Nums w v xs) :
    Calls Tryz.prog 68 #[.agg #[.bool neg, v]] w fun e w' => e = .returned (.bool (decide (IntOK neg xs))) ∧ w.grownBy w' none := by
  have gw := fun v' => gb_alloc w (.cells #[.bool neg, v'] 49) none
  have hB := fun v' => Blk.new w #[.bool neg, v'] 49
  have bxs := hx.lt
  obtain ⟨A, c, rfl, h1, h2, hA⟩ := hx.read
  obtain ⟨b0, b1, _⟩ := (hB (.slice A xs.length c)).two
  have hgw := gw (.slice A xs.length c)
  by_cases h72 : 72 < xs.length
  · have hno : decide (IntOK neg xs) = false := by rw [decide_eq_false_iff_not]; intro h; have := h.1; omega
    rw [hno]
    clear hx hA hno gw hB
    generalize xs.length = n at *
    go_enter Tryz.func68, Tryz.ntmps68
    go_wp2
    go_ret
    exact ⟨rfl, hgw⟩
  · by_cases h0 : xs.length = 0
    · obtain rfl := List.eq_nil_of_length_eq_zero h0
      have hr : decide (IntOK neg []) = !neg := by cases neg <;> decide
      rw [hr]
      clear hr hx hA gw hB
      simp only [List.length_nil] at *
      cases neg
      · go_enter Tryz.func68, Tryz.ntmps68
        go_wp2
        go_ret
        exact ⟨rfl, hgw⟩
      · go_enter Tryz.func68, Tryz.ntmps68
        go_wp2
        go_ret
        exact ⟨rfl, hgw⟩
    · have hr : decide (IntOK neg xs) = ((xs[xs.length - 1]?.getD 0 : Int) != 0) := by
        have hl := noEnd_last (xs := xs) (by omega)
        by_cases hz : xs[xs.length - 1]?.getD 0 = 0
        · rw [decide_eq_false (fun h => (hl.1 h.2.1) hz), hz]; rfl
        · rw [decide_eq_true ⟨by omega, hl.2 hz, fun e => absurd (by rw [e]; rfl) h0⟩]; symm; rw [bne_iff_ne]; omega
      rw [hr]
      obtain ⟨b, o, rfl, hc⟩ := hA (by omega)
      have hcn := gb_cell (gb_alloc w (.cells #[.bool neg, .slice (some ⟨b, o, none⟩) xs.length c] 49) none) (hc (xs.length - 1) (by omega)) (by simp)
      clear hr hx hA gw hB hc
      have t0 : ((xs.length : Int) == 0) = false := by rw [beq_eq_false_iff_ne]; omega
      generalize xs[xs.length - 1]?.getD 0 = d at *
      generalize xs.length = n at *
      go_enter Tryz.func68, Tryz.ntmps68
      go_wp2
      go_ret
      exact ⟨rfl, hgw⟩

theorem allG_false {l : List Int} {k : Nat} {x : Int} (hk : k < l.length) (hx : l.getD k 0 = x) (h : onG x = false) : l.all onG = false := by
  rw [List.all_eq_false]
  refine ⟨l[k], List.getElem_mem _, ?_⟩
  rw [show l[k] = x by rw [← hx]; simp [List.getD, List.getElem?_eq_getElem hk], h]; simp
set_option maxHeartbeats 40000000 in
theorem ROnGrid_calls (w : World) (v : Value) (l : List Int) (hr : IntRow w v l) :
    Calls Tryz.prog 37 #[v] w fun e w' => e = .returned (.bool (l.all onG)) ∧ w = w' := by
  obtain ⟨A, c, rfl, h1, h2⟩ := hr.ctor
  have HR := Lib.hid hr
  obtain ⟨D, hD⟩ : ∃ D, l.all onG = D := ⟨_, rfl⟩
  rw [hD]
  have HD := Lib.hid hD
  clear hr hD
  go_enter Tryz.func37, Tryz.ntmps37
  go_wp2_with fail
  go_loopw [3] (fun i wr => ∃ k : Nat, k ≤ l.length ∧ i = .int .i64 k ∧ w = wr ∧ Hid (∀ t, t < k → onG (l.getD t 0) = true)) (fun i _ => (l.length - intOf i).toNat)
  case atStart => exact ⟨0, by omega, rfl, rfl, Lib.hid (fun t ht => by omega)⟩
  case round =>
    obtain ⟨k, hk, rfl, rfl, hb⟩ := hrel
    by_cases hlt : k < l.length
    · obtain ⟨b, o, rfl, hI, u0⟩ := HR.out.at hlt
      have HLT := Lib.hid hlt
      have hx : l.getD k 0 = l.getD k 0 := rfl
      generalize hxv : l.getD k 0 = x at *
      have HX := Lib.hid hxv
      clear hx hxv
      by_cases g1 : x > 1000000000000000000
      · have HF : Hid (D = false) := Lib.hid (by rw [← HD.out]; exact allG_false HLT.out HX.out (by unfold onG; simp; omega))
        have e1 : (1000000000000000000 : Int) < x := by omega
        go_wp2_with fail
        go_ret
        exact ⟨ret_bool (by rw [HF.out]), rfl⟩
      · by_cases g2 : x < -1000000000000000000
        · have HF : Hid (D = false) := Lib.hid (by rw [← HD.out]; exact allG_false HLT.out HX.out (by unfold onG; simp; omega))
          have e1 : ¬ (1000000000000000000 : Int) < x := by omega
          go_wp2_with fail
          go_ret
          exact ⟨ret_bool (by rw [HF.out]), rfl⟩
        · have HG : Hid (onG x = true) := Lib.hid (by unfold onG; simp; omega)
          have e1 : ¬ (1000000000000000000 : Int) < x := by omega
          go_wp2_with fail
          exact ⟨⟨k + 1, by omega, by go_num, trivial, Lib.hid (fun t ht => by
            by_cases htk : t = k
            · subst htk; rw [HX.out]; exact HG.out
            · exact hb.out t (by omega))⟩, by simp [intOf]; omega⟩
    · obtain rfl : k = l.length := by omega
      have HT : Hid (D = true) := Lib.hid (by
        rw [← HD.out, List.all_eq_true]
        intro x hx
        obtain ⟨i, hi, rfl⟩ := List.mem_iff_getElem.1 hx
        have := hb.out i hi
        rwa [show l.getD i 0 = l[i] by simp [List.getD, List.getElem?_eq_getElem hi]] at this)
      clear hb
      go_wp2_with fail
      go_ret
      exact ⟨ret_bool (by rw [HT.out]), rfl⟩

end Go.Proofs.YtmfmfpmkgmkgiaaGreatDoor

namespace Go.Proofs.YtmfmfpmkgmkgiaaGreatDoor
open Go.RowKit
open Rat
def D16 (w : World) (v : Value) (ds : List Nat) : Prop :=
  ((v = .slice none 0 0 ∧ ds = []) ∨ ∃ b o c, v = .slice (some ⟨b, o, none⟩) ds.length c ∧ ds.length ≤ c ∧ c ≤ 9223372036854775807 ∧ ∀ i, i < ds.length → w.cell? ⟨b, o + i, none⟩ = some (.int .i64 ((ds[i]?.getD 0 : Nat) : Int))) ∧ ∀ x ∈ ds, x < 65536
theorem D16.nil (w : World) : D16 w (.slice none 0 0) [] := ⟨.inl ⟨rfl, rfl⟩, by simp⟩
theorem D16.more {w w' : World} {v : Value} {ds : List Nat} (h : D16 w v ds) (hg : w.grownBy w' none) : D16 w' v ds := by
  refine ⟨?_, h.2⟩
  rcases h.1 with h1 | ⟨b, o, c, rfl, h1, h2, h3⟩
  · exact .inl h1
  · exact .inr ⟨b, o, c, rfl, h1, h2, fun i hi => gb_cell hg (h3 i hi) (by simp)⟩
theorem D16.apart {w w' : World} {v : Value} {ds : List Nat} {r : Nat} (h : D16 w v ds) (hg : w.grownBy w' (some r)) (hne : v.ownBlock ≠ some r) : D16 w' v ds := by
  refine ⟨?_, h.2⟩
  rcases h.1 with h1 | ⟨b, o, c, rfl, h1, h2, h3⟩
  · exact .inl h1
  · have hb : b ≠ r := fun e => hne (by rw [e]; rfl)
    exact .inr ⟨b, o, c, rfl, h1, h2, fun i hi => gb_cell hg (h3 i hi) (by simpa using hb)⟩
theorem D16.ctor {w : World} {v : Value} {ds : List Nat} (h : D16 w v ds) : ∃ A c, v = .slice A ds.length c ∧ ds.length ≤ 9223372036854775807 := by
  rcases h.1 with ⟨rfl, rfl⟩ | ⟨b, o, c, rfl, h1, h2, _⟩
  · exact ⟨_, _, rfl, by simp⟩
  · exact ⟨_, _, rfl, by omega⟩
theorem D16.take {w : World} {b o c : Nat} {ds : List Nat} (h : D16 w (.slice (some ⟨b, o, none⟩) ds.length c) ds) {k : Nat} (hk : k ≤ ds.length) : D16 w (.slice (some ⟨b, o, none⟩) k c) (ds.take k) := by
  rcases h.1 with ⟨e, _⟩ | ⟨b', o', c', e, h1, h2, h3⟩
  · injection e with e; simp at e
  · injection e with e e1 e2
    injection e with e; injection e with e3 e4
    subst e3 e4 e2
    have hl : (ds.take k).length = k := by simp [hk]
    refine ⟨.inr ⟨b, o, c, by rw [hl], by omega, h2, fun i hi => ?_⟩, fun x hx => h.2 x (List.mem_of_mem_take hx)⟩
    rw [hl] at hi
    rw [h3 i (by omega), List.getElem?_take, if_pos hi]

set_option maxHeartbeats 40000000 in
theorem Rtrim_calls (w : World) (v : Value) (xs : List Nat) (hx : D16 w v xs) :
    Calls Tryz.prog 122 #[v] w fun e w' => ∃ v', e = .returned v' ∧ D16 w v' (dig 65536 (val 65536 xs)) ∧ v'.ownBlock = v.ownBlock ∧ w = w' := by
  rw [← trim_dig 65536 (by omega) xs hx.2]
  have hx' := hx
  rcases hx.1 with ⟨rfl, rfl⟩ | ⟨b, o, c, rfl, h1, h2, hc⟩
  · refine Calls.mono (R := fun e w' => e = .returned (.slice none 0 0) ∧ w' = w) ?_ (fun e w' ⟨he, hw⟩ => ⟨_, he, D16.nil w, rfl, hw.symm⟩)
    go_enter Tryz.func122, Tryz.ntmps122
    go_wp2
    go_loop [3] (fun n => n = .int .i64 0) (fun n => 0)
    case atStart => rfl
    case round =>
      obtain rfl := hrel
      go_wp2
      go_ret
      exact ⟨rfl, rfl⟩
  · refine Calls.mono (R := fun e w' => e = .returned (.slice (some ⟨b, o, none⟩) (trimLen xs xs.length) c) ∧ w' = w) ?_ (fun e w' ⟨he, hw⟩ => ⟨_, he, hx'.take (trimLen_le _ _), rfl, hw.symm⟩)
    clear hx hx'
    go_enter Tryz.func122, Tryz.ntmps122
    go_wp2
    go_loop [3] (fun n => ∃ k : Nat, k ≤ xs.length ∧ n = .int .i64 k ∧ Hid (trimLen xs k = trimLen xs xs.length)) (fun n => (intOf n).toNat)
    case atStart => exact ⟨_, Nat.le_refl _, rfl, rfl⟩
    case round =>
      obtain ⟨k, hk, rfl, ht⟩ := hrel
      have hpos : 0 < k → w.cell? ⟨b, o + (k - 1), none⟩ = some (.int .i64 ((xs[k - 1]?.getD 0 : Nat) : Int)) := fun _ => hc (k - 1) (by omega)
      clear hc
      go_wp2
      · exact ⟨⟨k - 1, by omega, by go_num, (trim_go (by assumption) (by assumption)).trans ht⟩, by simp [intOf]; omega⟩
      · go_ret; exact ⟨ret_slice ((trim_stop (by assumption) (by assumption)).symm.trans ht), rfl⟩
      · go_ret; exact ⟨ret_slice ((trim_none (by assumption)).symm.trans ht), rfl⟩
def d16 (z : Int) : List Nat := dig 65536 z.natAbs
theorem d16_nil {z : Int} : d16 z = [] ↔ z = 0 := by unfold d16; rw [dig_eq_nil _ _ (by omega)]; omega
def NZ (w : World) (nv : Value) (z : Int) : Prop := ∃ v, nv = .agg #[.bool (decide (z < 0)), v] ∧ D16 w v (d16 z)
theorem NZ.more {w w' : World} {v : Value} {z : Int} (h : NZ w v z) (hg : w.grownBy w' none) : NZ w' v z := by
  obtain ⟨u, rfl, h⟩ := h; exact ⟨u, rfl, h.more hg⟩

set_option maxHeartbeats 40000000 in
theorem MLength_calls (w : World) (nv : Value) (z : Int) (hx : NZ w nv z) (lz : (d16 z).length ≤ 1099511627776) :
    Calls Tryz.prog 53 #[nv] w fun e w' => e = .returned (.int .i64 (((d16 z).length + 1) / 2 : Nat)) ∧ w.grownBy w' none := by
  obtain ⟨v, rfl, hd⟩ := hx
  obtain ⟨A, c, rfl, hl⟩ := hd.ctor
  clear hl
  have gw := gb_alloc w (.cells #[.bool (decide (z < 0)), .slice A (d16 z).length c] 122) none
  have hB := Blk.new w #[.bool (decide (z < 0)), .slice A (d16 z).length c] 122
  obtain ⟨b0, b1, _⟩ := hB.two
  clear hd hB
  generalize (d16 z).length = n at *
  generalize decide (z < 0) = neg at *
  go_enter Tryz.func53, Tryz.ntmps53
  go_wp2
  go_ret
  exact ⟨by go_num, gw⟩

set_option maxHeartbeats 40000000 in
theorem MSign_calls (w : World) (nv : Value) (z : Int) (hx : NZ w nv z) :
    Calls Tryz.prog 69 #[nv] w fun e w' => e = .returned (.int .i64 (if z = 0 then 0 else if z < 0 then -1 else 1)) ∧ w.grownBy w' none := by
  obtain ⟨v, rfl, hd⟩ := hx
  obtain ⟨A, c, rfl, hl⟩ := hd.ctor
  have gw := gb_alloc w (.cells #[.bool (decide (z < 0)), .slice A (d16 z).length c] 122) none
  have hB := Blk.new w #[.bool (decide (z < 0)), .slice A (d16 z).length c] 122
  obtain ⟨b0, b1, _⟩ := hB.two
  have h0 : (d16 z).length = 0 ↔ z = 0 := by rw [List.length_eq_zero_iff]; exact d16_nil
  clear hd hB
  generalize (d16 z).length = n at *
  by_cases hz : z = 0
  · rw [if_pos hz]
    obtain rfl := h0.2 hz
    clear h0
    generalize decide (z < 0) = neg at *
    clear hz
    go_enter Tryz.func69, Tryz.ntmps69
    go_wp2
    go_ret
    exact ⟨by first | rfl | go_num, gw⟩
  · rw [if_neg hz]
    have t : ((n : Int) == 0) = false := by rw [beq_eq_false_iff_ne]; omega
    by_cases hn : z < 0
    · rw [if_pos hn]
      generalize hneg : decide (z < 0) = neg at *
      obtain rfl : neg = true := by rw [← hneg]; exact decide_eq_true hn
      clear h0 hz hneg hn
      go_enter Tryz.func69, Tryz.ntmps69
      go_wp2
      go_ret
      exact ⟨by first | rfl | go_num, gw⟩
    · rw [if_neg hn]
      generalize hneg : decide (z < 0) = neg at *
      obtain rfl : neg = false := by rw [← hneg]; exact decide_eq_false hn
      clear h0 hz hneg hn
      go_enter Tryz.func69, Tryz.ntmps69
      go_wp2
      go_ret
      exact ⟨by first | rfl | go_num, gw⟩

end Go.Proofs.YtmfmfpmkgmkgiaaGreatDoor
