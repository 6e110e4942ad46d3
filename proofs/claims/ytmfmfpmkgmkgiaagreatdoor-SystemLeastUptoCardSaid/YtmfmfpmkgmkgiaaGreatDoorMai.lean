/- Contracts of the program's functions, and what they rest on: Shelf FlatB SysA Quiet WavA. -/
import Derived.Shelf.SlGeneric
import Derived.Shelf.Small.Strs
import Derived.Shelf.Strings.Split
import Derived.Shelf.SlIterI.Nil
import Derived.Shelf.SortM.Plain
import Derived.Shelf.SortM.SortNone
import Derived.Ground.GgzProg
import Derived.Ground.SlgmProg
import Derived.Test.YtmfmfpmkgmkgiaaGreatDoorProg
import Derived.Test.YtmfmfpmkgmkgiaaGreatDoorMah
import Derived.Test.YtmfmfpmkgmkgiaaGreatDoorMag
import Derived.Test.YtmfmfpmkgmkgiaaGreatDoorMaa
import Derived.BigQuiet
import Derived.Deep.QuietTactic
set_option linter.unusedVariables false
set_option linter.unusedSimpArgs false
namespace Go.Proofs
open Go.Shelf
def Tryz.lays137_ren : Go.Shelf.Ren := ⟨fun | 137 => 148 | 217 => 202 | 266 => 233 | n => n, fun | 9 => 9 | 5 => 5 | 3 => 3 | n => n, fun | n => n⟩
theorem Tryz.lays137 : Go.Proofs.Lays.n137 Tryz.prog Tryz.lays137_ren := {
  mixed := by kernel_rfl
  f137 := Tryz.func148.trans (congrArg some (by kernel_rfl))
  f217 := Tryz.func202.trans (congrArg some (by kernel_rfl))
  f266 := Tryz.func233.trans (congrArg some (by kernel_rfl))
  t3 := Tryz.underlying3
  a3 := Tryz.isAgg3
  z3 := Tryz.sizeOf3
  v3 := Tryz.zeroValue3
  t5 := Tryz.underlying5
  a5 := Tryz.isAgg5
  z5 := Tryz.sizeOf5
  v5 := Tryz.zeroValue5
  t9 := Tryz.underlying9
  a9 := Tryz.isAgg9
  z9 := Tryz.sizeOf9
  v9 := Tryz.zeroValue9 }
open Go.RowKit in
theorem Tryz.strings_IndexByte (s : ByteArray) (c : Int) (w : World) :
    Calls Tryz.prog 148 #[.string s, .int .u8 c] w fun e w' => e = .returned (.int .i64 (Lib.indexByte s.data.toList c.toNat.toUInt8)) ∧ w' = w := Any.strings_IndexByte Tryz.lays137 s c w
def Tryz.lays146_ren : Go.Shelf.Ren := ⟨fun | 146 => 141 | 221 => 198 | 268 => 229 | 138 => 230 | 143 => 231 | 195 => 241 | 197 => 242 | 218 => 243 | 219 => 244 | 260 => 256 | 217 => 202 | 225 => 257 | 224 => 258 | 267 => 259 | 266 => 233 | 314 => 266 | n => n, fun | 9 => 9 | 31 => 22 | 3 => 3 | 4 => 4 | 0 => 0 | 105 => 298 | 21 => 21 | 5 => 5 | 46 => 203 | 119 => 317 | 139 => 320 | 138 => 319 | 146 => 321 | 51 => 56 | n => n, fun | 1 => 0 | 3 => 1 | 4 => 2 | n => n⟩
theorem Tryz.lays146 : Go.Proofs.Lays.n146 Tryz.prog Tryz.lays146_ren := {
  mixed := by kernel_rfl
  f138 := Tryz.func230.trans (congrArg some (by kernel_rfl))
  f143 := Tryz.func231.trans (congrArg some (by kernel_rfl))
  f146 := Tryz.func141.trans (congrArg some (by kernel_rfl))
  f195 := Tryz.func241.trans (congrArg some (by kernel_rfl))
  f197 := Tryz.func242.trans (congrArg some (by kernel_rfl))
  f217 := Tryz.func202.trans (congrArg some (by kernel_rfl))
  f218 := Tryz.func243.trans (congrArg some (by kernel_rfl))
  f219 := Tryz.func244.trans (congrArg some (by kernel_rfl))
  f221 := Tryz.func198.trans (congrArg some (by kernel_rfl))
  f224 := Tryz.func258.trans (congrArg some (by kernel_rfl))
  f225 := Tryz.func257.trans (congrArg some (by kernel_rfl))
  f260 := Tryz.func256.trans (congrArg some (by kernel_rfl))
  f266 := Tryz.func233.trans (congrArg some (by kernel_rfl))
  f267 := Tryz.func259.trans (congrArg some (by kernel_rfl))
  f268 := Tryz.func229.trans (congrArg some (by kernel_rfl))
  f314 := Tryz.func266.trans (congrArg some (by kernel_rfl))
  t0 := Tryz.underlying0
  a0 := Tryz.isAgg0
  z0 := Tryz.sizeOf0
  v0 := Tryz.zeroValue0
  t3 := Tryz.underlying3
  a3 := Tryz.isAgg3
  z3 := Tryz.sizeOf3
  v3 := Tryz.zeroValue3
  t4 := Tryz.underlying4
  a4 := Tryz.isAgg4
  z4 := Tryz.sizeOf4
  v4 := Tryz.zeroValue4
  t5 := Tryz.underlying5
  a5 := Tryz.isAgg5
  z5 := Tryz.sizeOf5
  v5 := Tryz.zeroValue5
  t9 := Tryz.underlying9
  a9 := Tryz.isAgg9
  z9 := Tryz.sizeOf9
  v9 := Tryz.zeroValue9
  t21 := Tryz.underlying21
  a21 := Tryz.isAgg21
  z21 := Tryz.sizeOf21
  v21 := Tryz.zeroValue21
  t31 := Tryz.underlying22
  a31 := Tryz.isAgg22
  z31 := Tryz.sizeOf22
  v31 := Tryz.zeroValue22
  t46 := Tryz.underlying203
  a46 := Tryz.isAgg203
  z46 := Tryz.sizeOf203
  v46 := Tryz.zeroValue203
  t51 := Tryz.underlying56
  a51 := Tryz.isAgg56
  z51 := Tryz.sizeOf56
  v51 := Tryz.zeroValue56
  t105 := Tryz.underlying298
  a105 := Tryz.isAgg298
  z105 := Tryz.sizeOf298
  v105 := Tryz.zeroValue298
  t119 := Tryz.underlying317
  a119 := Tryz.isAgg317
  z119 := Tryz.sizeOf317
  t138 := Tryz.underlying319
  a138 := Tryz.isAgg319
  z138 := Tryz.sizeOf319
  v138 := Tryz.zeroValue319
  t139 := Tryz.underlying320
  a139 := Tryz.isAgg320
  z139 := Tryz.sizeOf320
  v139 := Tryz.zeroValue320
  t146 := Tryz.underlying321
  a146 := Tryz.isAgg321
  z146 := Tryz.sizeOf321
  v146 := Tryz.zeroValue321
  g1 := by kernel_rfl
  g3 := by kernel_rfl
  g4 := by kernel_rfl }
open Go.RowKit Go.Lib in
theorem Tryz.strings_Split (s sep : ByteArray) (m : Int) (w : World) (hs : s.size < 4294967281) (hm : w.cell? ⟨0, 0, none⟩ = some (.int .i64 m)) (h1 : 1 ≤ sep.size) :
    Calls Tryz.prog 141 #[.string s, .string sep] w fun e w' =>
      e = .returned (.slice (some ⟨w.heap.size, 0, none⟩) (Lib.countB s sep + 1) (Lib.countB s sep + 1)) ∧ w' = w.alloc (.cells ((Lib.splitB sep 0 (Lib.countB s sep) s).map Value.string).toArray 9) := Any.strings_Split Tryz.lays146 (by kernel_rfl) s sep m w hs hm h1
def Tryz.keysA_ren : Go.Shelf.Ren := ⟨fun | 7 => 168 | 10 => 213 | n => n, fun | 23 => 112 | 26 => 3 | 3 => 175 | 28 => 240 | 0 => 0 | 27 => 239 | 33 => 276 | 4 => 4 | n => n, fun | n => n⟩
theorem Tryz.keysA : Go.Proofs.SlLaysZI.n7 Tryz.prog Tryz.keysA_ren := {
  mixed := by kernel_rfl
  f7 := ⟨Tryz.f168.name, by decide, Tryz.func168.trans (congrArg some (by kernel_rfl))⟩
  f10 := ⟨Tryz.f213.name, by decide, Tryz.func213.trans (congrArg some (by kernel_rfl))⟩
  t0 := Tryz.underlying0
  a0 := Tryz.isAgg0
  z0 := Tryz.sizeOf0
  v0 := Tryz.zeroValue0
  t4 := Tryz.underlying4
  a4 := Tryz.isAgg4
  z4 := Tryz.sizeOf4
  v4 := Tryz.zeroValue4
  t23 := Tryz.underlying112
  a23 := Tryz.isAgg112
  z23 := Tryz.sizeOf112
  v23 := Tryz.zeroValue112
  t26 := Tryz.underlying3
  a26 := Tryz.isAgg3
  z26 := Tryz.sizeOf3
  v26 := Tryz.zeroValue3
  t27 := Tryz.underlying239
  a27 := Tryz.isAgg239
  z27 := Tryz.sizeOf239
  v27 := Tryz.zeroValue239
  t28 := Tryz.underlying240
  a28 := Tryz.isAgg240
  z28 := Tryz.sizeOf240
  v28 := Tryz.zeroValue240
  t33 := Tryz.underlying276
  a33 := Tryz.isAgg276
  z33 := Tryz.sizeOf276
  v33 := Tryz.zeroValue276 }
def Tryz.sortedA_ren : Go.Shelf.Ren := ⟨fun | 6 => 167 | 8 => 211 | 9 => 212 | 11 => 235 | 13 => 237 | 12 => 236 | 23 => 254 | 24 => 255 | 14 => 245 | 15 => 246 | 16 => 247 | 17 => 248 | 18 => 249 | 19 => 250 | 20 => 251 | 21 => 252 | 22 => 253 | 25 => 260 | 26 => 261 | 27 => 262 | 28 => 263 | 29 => 264 | 30 => 265 | 31 => 267 | n => n, fun | 26 => 3 | 28 => 240 | 24 => 30 | 0 => 0 | 3 => 3 | 37 => 203 | 48 => 56 | 50 => 202 | 4 => 4 | 40 => 302 | 39 => 301 | 45 => 307 | 5 => 5 | 9 => 9 | 51 => 311 | 55 => 315 | 57 => 323 | 58 => 324 | 33 => 276 | n => n, fun | n => n⟩
theorem Tryz.sortedA : Go.Proofs.SlLaysZI.n6 Tryz.prog Tryz.sortedA_ren := {
  mixed := by kernel_rfl
  f6 := ⟨Tryz.f167.name, by decide, Tryz.func167.trans (congrArg some (by kernel_rfl))⟩
  f8 := ⟨Tryz.f211.name, by decide, Tryz.func211.trans (congrArg some (by kernel_rfl))⟩
  f11 := ⟨Tryz.f235.name, by decide, Tryz.func235.trans (congrArg some (by kernel_rfl))⟩
  t0 := Tryz.underlying0
  a0 := Tryz.isAgg0
  z0 := Tryz.sizeOf0
  v0 := Tryz.zeroValue0
  t24 := Tryz.underlying30
  a24 := Tryz.isAgg30
  z24 := Tryz.sizeOf30
  v24 := Tryz.zeroValue30
  t26 := Tryz.underlying3
  a26 := Tryz.isAgg3
  z26 := Tryz.sizeOf3
  v26 := Tryz.zeroValue3
  t28 := Tryz.underlying240
  a28 := Tryz.isAgg240
  z28 := Tryz.sizeOf240
  v28 := Tryz.zeroValue240
  i26 := by kernel_rfl }
def Tryz.sortA_ren : Go.Shelf.Ren := ⟨fun | 5 => 212 | 8 => 237 | 7 => 236 | 19 => 254 | 20 => 255 | 10 => 245 | 11 => 246 | 12 => 247 | 13 => 248 | 14 => 249 | 15 => 250 | 16 => 251 | 17 => 252 | 18 => 253 | 30 => 260 | 31 => 261 | 32 => 262 | 33 => 263 | 34 => 264 | 35 => 265 | 40 => 267 | n => n, fun | 23 => 30 | 25 => 3 | 3 => 3 | 32 => 203 | 22 => 30 | 0 => 0 | 44 => 56 | 46 => 202 | 4 => 4 | 36 => 302 | 35 => 301 | 41 => 307 | 5 => 5 | 9 => 9 | 53 => 311 | 57 => 315 | 63 => 323 | 64 => 324 | n => n, fun | n => n⟩
theorem Tryz.sortA : Go.Proofs.SlLaysM.n5 Tryz.prog Tryz.sortA_ren := {
  mixed := by kernel_rfl
  f5 := ⟨Tryz.f212.name, by decide, Tryz.func212.trans (congrArg some (by kernel_rfl))⟩
  f7 := ⟨Tryz.f236.name, by decide, Tryz.func236.trans (congrArg some (by kernel_rfl))⟩
  f8 := Tryz.func237.trans (congrArg some (by kernel_rfl))
  f10 := ⟨Tryz.f245.name, by decide, Tryz.func245.trans (congrArg some (by kernel_rfl))⟩
  f11 := ⟨Tryz.f246.name, by decide, Tryz.func246.trans (congrArg some (by kernel_rfl))⟩
  f12 := ⟨Tryz.f247.name, by decide, Tryz.func247.trans (congrArg some (by kernel_rfl))⟩
  f13 := ⟨Tryz.f248.name, by decide, Tryz.func248.trans (congrArg some (by kernel_rfl))⟩
  f14 := ⟨Tryz.f249.name, by decide, Tryz.func249.trans (congrArg some (by kernel_rfl))⟩
  f15 := ⟨Tryz.f250.name, by decide, Tryz.func250.trans (congrArg some (by kernel_rfl))⟩
  f16 := ⟨Tryz.f251.name, by decide, Tryz.func251.trans (congrArg some (by kernel_rfl))⟩
  f17 := ⟨Tryz.f252.name, by decide, Tryz.func252.trans (congrArg some (by kernel_rfl))⟩
  f18 := ⟨Tryz.f253.name, by decide, Tryz.func253.trans (congrArg some (by kernel_rfl))⟩
  f19 := Tryz.func254.trans (congrArg some (by kernel_rfl))
  f20 := Tryz.func255.trans (congrArg some (by kernel_rfl))
  f30 := ⟨Tryz.f260.name, by decide, Tryz.func260.trans (congrArg some (by kernel_rfl))⟩
  f31 := Tryz.func261.trans (congrArg some (by kernel_rfl))
  f32 := Tryz.func262.trans (congrArg some (by kernel_rfl))
  f33 := ⟨Tryz.f263.name, by decide, Tryz.func263.trans (congrArg some (by kernel_rfl))⟩
  f34 := ⟨Tryz.f264.name, by decide, Tryz.func264.trans (congrArg some (by kernel_rfl))⟩
  f35 := ⟨Tryz.f265.name, by decide, Tryz.func265.trans (congrArg some (by kernel_rfl))⟩
  f40 := ⟨Tryz.f267.name, by decide, Tryz.func267.trans (congrArg some (by kernel_rfl))⟩
  t0 := Tryz.underlying0
  a0 := Tryz.isAgg0
  z0 := Tryz.sizeOf0
  v0 := Tryz.zeroValue0
  t3 := Tryz.underlying3
  a3 := Tryz.isAgg3
  z3 := Tryz.sizeOf3
  v3 := Tryz.zeroValue3
  t4 := Tryz.underlying4
  a4 := Tryz.isAgg4
  z4 := Tryz.sizeOf4
  v4 := Tryz.zeroValue4
  t5 := Tryz.underlying5
  a5 := Tryz.isAgg5
  z5 := Tryz.sizeOf5
  v5 := Tryz.zeroValue5
  t9 := Tryz.underlying9
  a9 := Tryz.isAgg9
  z9 := Tryz.sizeOf9
  v9 := Tryz.zeroValue9
  t22 := Tryz.underlying30
  a22 := Tryz.isAgg30
  z22 := Tryz.sizeOf30
  v22 := Tryz.zeroValue30
  t23 := Tryz.underlying30
  a23 := Tryz.isAgg30
  z23 := Tryz.sizeOf30
  v23 := Tryz.zeroValue30
  t25 := Tryz.underlying3
  a25 := Tryz.isAgg3
  z25 := Tryz.sizeOf3
  v25 := Tryz.zeroValue3
  t32 := Tryz.underlying203
  a32 := Tryz.isAgg203
  z32 := Tryz.sizeOf203
  v32 := Tryz.zeroValue203
  t35 := Tryz.underlying301
  a35 := Tryz.isAgg301
  z35 := Tryz.sizeOf301
  v35 := Tryz.zeroValue301
  t36 := Tryz.underlying302
  a36 := Tryz.isAgg302
  z36 := Tryz.sizeOf302
  v36 := Tryz.zeroValue302
  t41 := Tryz.underlying307
  a41 := Tryz.isAgg307
  z41 := Tryz.sizeOf307
  v41 := Tryz.zeroValue307
  t44 := Tryz.underlying56
  a44 := Tryz.isAgg56
  z44 := Tryz.sizeOf56
  v44 := Tryz.zeroValue56
  t46 := Tryz.underlying202
  a46 := Tryz.isAgg202
  z46 := Tryz.sizeOf202
  v46 := Tryz.zeroValue202
  t53 := Tryz.underlying311
  a53 := Tryz.isAgg311
  z53 := Tryz.sizeOf311
  v53 := Tryz.zeroValue311
  t57 := Tryz.underlying315
  a57 := Tryz.isAgg315
  z57 := Tryz.sizeOf315
  v57 := Tryz.zeroValue315
  t63 := Tryz.underlying323
  a63 := Tryz.isAgg323
  z63 := Tryz.sizeOf323
  v63 := Tryz.zeroValue323
  t64 := Tryz.underlying324
  a64 := Tryz.isAgg324
  z64 := Tryz.sizeOf324
  v64 := Tryz.zeroValue324 }
end Go.Proofs

namespace Go.Proofs.YtmfmfpmkgmkgiaaGreatDoor
open Go.RowKit Go.Maps
def GlobOK (w : World) : Prop := ∃ m, w.cell? ⟨0, 0, none⟩ = some (.int .i64 m)
theorem GlobOK.more {w w' : World} (h : GlobOK w) (hg : w.grownBy w' none) : GlobOK w' := by
  obtain ⟨m, h⟩ := h; exact ⟨m, gb_cell hg h (by simp)⟩
def nmOK (s : ByteArray) : Bool := nameOK s.data.toList
def dot : ByteArray := ⟨#[46]⟩
def longOK (s : ByteArray) : Bool := decide (Lib.countB s dot + 1 ≤ 9) && (Lib.splitB dot 0 (Lib.countB s dot) s).all nmOK

set_option maxHeartbeats 40000000 in
theorem long1_calls (w : World) (s : ByteArray) :
    Calls Tryz.prog 143 #[.string s] w fun e w' => e = .returned (.bool (!nmOK s)) ∧ w.grownBy w' none := by
  obtain ⟨R, hR⟩ : ∃ R, nameOK s.data.toList = R := ⟨_, rfl⟩
  have h := CName_calls w s
  rw [hR] at h
  show Calls _ _ _ _ fun e w' => e = .returned (.bool (!nameOK s.data.toList)) ∧ _
  rw [hR]
  clear hR
  go_enter Tryz.func143, Tryz.ntmps143
  go_wp2_with fail
  refine h.mono ?_
  rintro e w1 ⟨rfl, hg⟩
  go_wp2
  go_ret
  exact ⟨rfl, hg⟩

def FIX (r : Int) (l : List ByteArray) : Prop := -1 ≤ r ∧ (r < 0 ↔ l.all nmOK = true)
set_option maxRecDepth 100000 in
set_option maxHeartbeats 40000000 in
theorem IndexFuncS_calls (w : World) (v : Value) (l : List ByteArray) (hr : Row w v (strs l)) :
    Calls Tryz.prog 199 #[v, .func (.func 143) #[] #[]] w fun e w' => ∃ r : Int, e = .returned (.int .i64 r) ∧ Hid (FIX r l) ∧ w.grownBy w' none := by
  have HR := Lib.hid hr
  obtain ⟨A, c, rfl, h1, h2, h3⟩ := hr
  rw [strs_length] at *
  have H3 := Lib.hid h3
  clear h3
  go_enter Tryz.func199, Tryz.ntmps199
  go_wp2_with fail
  go_loopw [8] (fun i wr => ∃ k : Nat, k ≤ l.length ∧ i = .int .i64 k ∧ Hid (∀ t, t < k → nmOK (l.getD t default) = true) ∧ w.grownBy wr none) (fun i _ => l.length - (intOf i).toNat)
  case atStart => exact ⟨0, Nat.zero_le _, rfl, Lib.hid (fun t ht => by omega), gb_refl _ _⟩
  case round =>
    obtain ⟨k, hk, rfl, hS, hg⟩ := hrel
    by_cases hlt : k < l.length
    · have hcell : ∃ b o, A = some ⟨b, o, none⟩ ∧ wr.cell? ⟨b, o + k, none⟩ = some (.string (l.getD k default)) := by
        rcases H3.out with ⟨h0, _⟩ | ⟨b, o, rfl, hc⟩
        · have := congrArg List.length h0; rw [strs_length] at this; exact absurd (show l.length = 0 from this) (by omega)
        · exact ⟨b, o, rfl, gb_cell hg ((hc k hlt).trans (strs_get l k hlt)) (by simp)⟩
      obtain ⟨b, o, rfl, hc⟩ := hcell
      generalize hx : l.getD k default = x at *
      have HX := Lib.hid hx
      clear hx
      go_wp2_with fail
      refine (long1_calls wr x).mono ?_
      rintro e w1 ⟨rfl, hg1⟩
      cases hd : nmOK x with
      | false =>
        have HD := Lib.hid hd
        clear hd
        go_wp2
        go_ret
        refine ⟨_, rfl, Lib.hid ⟨by omega, ⟨fun h => by omega, fun h => ?_⟩⟩, gb_trans hg hg1⟩
        rw [List.all_eq_true] at h
        have := h x (by rw [← HX.out]; simp [List.getD, List.getElem?_eq_getElem hlt])
        rw [HD.out] at this
        cases this
      | true =>
        have HD := Lib.hid hd
        clear hd
        go_wp2
        exact ⟨⟨k + 1, by omega, by go_num, Lib.hid (fun t ht => by
          by_cases htk : t = k
          · subst htk; rw [HX.out]; exact HD.out
          · exact hS.out t (by omega)), gb_trans hg hg1⟩, by simp [intOf]; omega⟩
    · obtain rfl : k = l.length := by omega
      go_wp2_with fail
      go_ret
      refine ⟨_, rfl, Lib.hid ⟨by omega, ⟨fun _ => ?_, fun _ => by omega⟩⟩, hg⟩
      rw [List.all_eq_true]
      intro x hx
      obtain ⟨j, hj, rfl⟩ := List.mem_iff_getElem.1 hx
      have := hS.out j hj
      rwa [show l.getD j default = l[j] by simp [List.getD, List.getElem?_eq_getElem hj]] at this

set_option maxHeartbeats 40000000 in
theorem ContainsFuncS_calls (w : World) (v : Value) (l : List ByteArray) (hr : Row w v (strs l)) :
    Calls Tryz.prog 142 #[v, .func (.func 143) #[] #[]] w fun e w' => e = .returned (.bool (!l.all nmOK)) ∧ w.grownBy w' none := by
  have h := IndexFuncS_calls w v l hr
  obtain ⟨A, c, rfl, h1, h2, h3⟩ := hr
  clear h3
  go_enter Tryz.func142, Tryz.ntmps142
  go_wp2_with fail
  refine h.mono ?_
  rintro e w1 ⟨r, rfl, hf, hg⟩
  have h1 := hf.out.1
  by_cases hneg : r < 0
  · have hz : ¬ (0 : Int) ≤ r := by omega
    have ha := hf.out.2.1 hneg
    have HA := Lib.hid ha
    clear ha
    go_wp2
    go_ret
    exact ⟨ret_bool (by rw [HA.out]; simp; omega), hg⟩
  · have hz : (0 : Int) ≤ r := by omega
    have ha : l.all nmOK = false := by
      cases hh : l.all nmOK
      · rfl
      · exact absurd (hf.out.2.2 hh) hneg
    have HA := Lib.hid ha
    clear ha
    go_wp2
    go_ret
    exact ⟨ret_bool (by rw [HA.out]; simp), hg⟩

set_option maxRecDepth 100000 in
set_option maxHeartbeats 40000000 in
theorem flong_calls (w : World) (s : ByteArray) (hg : GlobOK w) (hs : s.size < 4294967281) :
    Calls Tryz.prog 90 #[.string s] w fun e w' => e = .returned (.bool (longOK s)) ∧ w.grownBy w' none := by
  obtain ⟨m, hm⟩ := hg
  have hsp := Tryz.strings_Split s dot m w hs hm (by decide)
  have hlen := Lib.splitB_all dot (by decide) 0 _ s rfl
  have hcnt := Lib.countB_le dot (by decide) s.size s (Nat.le_refl _)
  have hU : Hid (longOK s = (decide (Lib.countB s dot + 1 ≤ 9) && (Lib.splitB dot 0 (Lib.countB s dot) s).all nmOK)) := Lib.hid rfl
  generalize Lib.splitB dot 0 (Lib.countB s dot) s = parts at *
  generalize Lib.countB s dot = n at *
  have hr : Row (w.alloc (.cells (parts.map Value.string).toArray 9)) (.slice (some ⟨w.heap.size, 0, none⟩) (n + 1) (n + 1)) (strs parts) := by
    refine Row.mk (by rw [strs_length]; omega) (by rw [strs_length]; omega) (by omega) fun i hi => ?_
    rw [cell_of_heap (heap_alloc_new w _), Nat.zero_add]
    simp [strs]
  have ga := gb_alloc w (.cells (parts.map Value.string).toArray 9) none
  have hC := ContainsFuncS_calls _ _ _ hr
  have HSP := Lib.hid hsp
  have HC := Lib.hid hC
  have hn : n ≤ 4294967281 := by omega
  clear hsp hC hlen hr hm hcnt
  go_enter Tryz.func90, Tryz.ntmps90
  go_wp2_with fail
  refine HSP.out.mono ?_
  rintro e w1 ⟨rfl, rfl⟩
  by_cases h9 : n + 1 ≤ 9
  · have h9' : ((n : Int) + 1) ≤ 9 := by omega
    go_wp2_with fail
    refine HC.out.mono ?_
    rintro e w1 ⟨rfl, hg1⟩
    generalize hall : parts.all nmOK = B at *
    go_wp2
    go_ret
    exact ⟨ret_bool (by rw [hU.out]; simp [h9]), gb_trans ga hg1⟩
  · have h9' : ¬ ((n : Int) + 1) ≤ 9 := by omega
    go_wp2
    go_ret
    exact ⟨ret_bool (by rw [hU.out]; simp [h9]), ga⟩

end Go.Proofs.YtmfmfpmkgmkgiaaGreatDoor

namespace Go.Proofs.YtmfmfpmkgmkgiaaGreatDoor
open Go.RowKit
open Rat
def Recs (w : World) (k : Nat) (v : Value) (n : Nat) (cs : Nat → List Value) : Prop :=
  ∃ A c, v = .slice A n c ∧ n ≤ c ∧ c ≤ 9223372036854775807 ∧
    (0 < n → ∃ b o, A = some ⟨b, o, none⟩ ∧ ∀ i, i < n → ∀ j, j < k → ∃ u, (cs i)[j]? = some u ∧ w.cell? ⟨b, o + i * k + j, none⟩ = some u)
theorem Recs.more {w w' : World} {k : Nat} {v : Value} {n : Nat} {cs : Nat → List Value} (h : Recs w k v n cs) (hg : w.grownBy w' none) : Recs w' k v n cs := by
  obtain ⟨A, c, rfl, h1, h2, h4⟩ := h
  refine ⟨A, c, rfl, h1, h2, fun hp => ?_⟩
  obtain ⟨b, o, rfl, hc⟩ := h4 hp
  refine ⟨b, o, rfl, fun i hi j hj => ?_⟩
  obtain ⟨u, hu, hcell⟩ := hc i hi j hj
  exact ⟨u, hu, gb_cell hg hcell (by simp)⟩
structure CellP where
  col : Int
  neg : Bool
  limbs : List Nat
def cell0 : CellP := ⟨0, false, []⟩
def CellP.z (c : CellP) : Int := sg c.neg (val 4294967296 c.limbs)
structure RowP where
  mneg : Bool
  mlimbs : List Nat
  a : List CellP
  h : List CellP
  s : List CellP
  kneg : Bool
  klimbs : List Nat
def row0 : RowP := ⟨false, [], [], [], [], false, []⟩
def RowP.k (r : RowP) : Int := sg r.kneg (val 4294967296 r.klimbs)

def CellRow (w : World) (v : Value) (l : List CellP) : Prop :=
  ∃ A c, v = .slice A l.length c ∧ l.length ≤ c ∧ c ≤ 9223372036854775807 ∧
    (0 < l.length → ∃ b o, A = some ⟨b, o, none⟩ ∧ ∀ i, i < l.length → ∃ u, I64 (l.getD i cell0).col ∧ w.cell? ⟨b, o + i * 3, none⟩ = some (.int .i64 (l.getD i cell0).col) ∧ w.cell? ⟨b, o + i * 3 + 1, none⟩ = some (.bool (l.getD i cell0).neg) ∧ w.cell? ⟨b, o + i * 3 + 2, none⟩ = some u ∧ Nums w u (l.getD i cell0).limbs)
theorem CellRow.more {w w' : World} {v : Value} {l : List CellP} (h : CellRow w v l) (hg : w.grownBy w' none) : CellRow w' v l := by
  obtain ⟨A, c, rfl, h1, h2, h4⟩ := h
  refine ⟨A, c, rfl, h1, h2, fun hp => ?_⟩
  obtain ⟨b, o, rfl, hc⟩ := h4 hp
  refine ⟨b, o, rfl, fun i hi => ?_⟩
  obtain ⟨u, hI, c0, c1, c2, hn⟩ := hc i hi
  exact ⟨u, hI, gb_cell hg c0 (by simp), gb_cell hg c1 (by simp), gb_cell hg c2 (by simp), hn.more hg⟩
theorem CellRow.ctor {w : World} {v : Value} {l : List CellP} (h : CellRow w v l) : ∃ A c, v = .slice A l.length c ∧ l.length ≤ c ∧ c ≤ 9223372036854775807 := by
  obtain ⟨A, c, rfl, h1, h2, _⟩ := h
  exact ⟨A, c, rfl, h1, h2⟩
theorem CellRow.at {w : World} {A : Option Addr} {n c : Nat} {l : List CellP} (h : CellRow w (.slice A n c) l) {i : Nat} (hi : i < l.length) :
    ∃ b o A' n' c', A = some ⟨b, o, none⟩ ∧ I64 (l.getD i cell0).col ∧ w.cell? ⟨b, o + i * 3, none⟩ = some (.int .i64 (l.getD i cell0).col) ∧ w.cell? ⟨b, o + i * 3 + 1, none⟩ = some (.bool (l.getD i cell0).neg) ∧ w.cell? ⟨b, o + i * 3 + 2, none⟩ = some (.slice A' n' c') ∧ Nums w (.slice A' n' c') (l.getD i cell0).limbs := by
  obtain ⟨A0, c0, he, h1, h2, h4⟩ := h
  injection he with e1 e2 e3
  subst e1
  obtain ⟨b, o, rfl, hc⟩ := h4 (by omega)
  obtain ⟨u, hI, c0, c1, c2, hn⟩ := hc i hi
  obtain ⟨A', n', c', rfl⟩ := hn.ctor
  exact ⟨b, o, A', n', c', rfl, hI, c0, c1, c2, hn⟩
def RowV (w : World) (cs : List Value) (r : RowP) : Prop :=
  ∃ vm va vh vs vk, cs = [.bool r.mneg, vm, va, vh, vs, .bool r.kneg, vk] ∧ Nums w vm r.mlimbs ∧ CellRow w va r.a ∧ CellRow w vh r.h ∧ CellRow w vs r.s ∧ Nums w vk r.klimbs
theorem RowV.more {w w' : World} {cs : List Value} {r : RowP} (h : RowV w cs r) (hg : w.grownBy w' none) : RowV w' cs r := by
  obtain ⟨vm, va, vh, vs, vk, rfl, h1, h2, h3, h4, h5⟩ := h
  exact ⟨vm, va, vh, vs, vk, rfl, h1.more hg, h2.more hg, h3.more hg, h4.more hg, h5.more hg⟩
def SysRow (w : World) (v : Value) (l : List RowP) : Prop :=
  ∃ A c, v = .slice A l.length c ∧ l.length ≤ c ∧ c ≤ 9223372036854775807 ∧
    (0 < l.length → ∃ b o, A = some ⟨b, o, none⟩ ∧ ∀ i, i < l.length → ∃ cs, RowV w cs (l.getD i row0) ∧ ∀ j, j < 7 → w.cell? ⟨b, o + i * 7 + j, none⟩ = cs[j]?)
theorem SysRow.more {w w' : World} {v : Value} {l : List RowP} (h : SysRow w v l) (hg : w.grownBy w' none) : SysRow w' v l := by
  obtain ⟨A, c, rfl, h1, h2, h4⟩ := h
  refine ⟨A, c, rfl, h1, h2, fun hp => ?_⟩
  obtain ⟨b, o, rfl, hc⟩ := h4 hp
  refine ⟨b, o, rfl, fun i hi => ?_⟩
  obtain ⟨cs, hr, hcell⟩ := hc i hi
  refine ⟨cs, hr.more hg, fun j hj => ?_⟩
  have hl : cs.length = 7 := by obtain ⟨_, _, _, _, _, rfl, _⟩ := hr; rfl
  have e := hcell j hj
  rw [List.getElem?_eq_getElem (by omega)] at e ⊢
  exact gb_cell hg e (by simp)
theorem SysRow.ctor {w : World} {v : Value} {l : List RowP} (h : SysRow w v l) : ∃ A c, v = .slice A l.length c ∧ l.length ≤ c ∧ c ≤ 9223372036854775807 := by
  obtain ⟨A, c, rfl, h1, h2, _⟩ := h
  exact ⟨A, c, rfl, h1, h2⟩
theorem SysRow.at {w : World} {A : Option Addr} {n c : Nat} {l : List RowP} (h : SysRow w (.slice A n c) l) {i : Nat} (hi : i < l.length) :
    ∃ b o Am nm cm Aa ca Ah ch As cs Ak nk ck, A = some ⟨b, o, none⟩ ∧
      w.cell? ⟨b, o + i * 7, none⟩ = some (.bool (l.getD i row0).mneg) ∧ w.cell? ⟨b, o + i * 7 + 1, none⟩ = some (.slice Am nm cm) ∧
      w.cell? ⟨b, o + i * 7 + 2, none⟩ = some (.slice Aa (l.getD i row0).a.length ca) ∧ w.cell? ⟨b, o + i * 7 + 3, none⟩ = some (.slice Ah (l.getD i row0).h.length ch) ∧ w.cell? ⟨b, o + i * 7 + 4, none⟩ = some (.slice As (l.getD i row0).s.length cs) ∧
      w.cell? ⟨b, o + i * 7 + 5, none⟩ = some (.bool (l.getD i row0).kneg) ∧ w.cell? ⟨b, o + i * 7 + 6, none⟩ = some (.slice Ak nk ck) ∧
      Nums w (.slice Am nm cm) (l.getD i row0).mlimbs ∧ CellRow w (.slice Aa (l.getD i row0).a.length ca) (l.getD i row0).a ∧ CellRow w (.slice Ah (l.getD i row0).h.length ch) (l.getD i row0).h ∧ CellRow w (.slice As (l.getD i row0).s.length cs) (l.getD i row0).s ∧ Nums w (.slice Ak nk ck) (l.getD i row0).klimbs := by
  obtain ⟨A0, c0, he, h1, h2, h4⟩ := h
  injection he with e1 e2 e3
  subst e1
  obtain ⟨b, o, rfl, hc⟩ := h4 (by omega)
  obtain ⟨cs, ⟨vm, va, vh, vs, vk, rfl, r1, r2, r3, r4, r5⟩, hcell⟩ := hc i hi
  obtain ⟨Am, nm, cm, rfl⟩ := r1.ctor
  obtain ⟨Aa, ca, rfl, _⟩ := r2.ctor
  obtain ⟨Ah, ch, rfl, _⟩ := r3.ctor
  obtain ⟨As, cs, rfl, _⟩ := r4.ctor
  obtain ⟨Ak, nk, ck, rfl⟩ := r5.ctor
  exact ⟨b, o, Am, nm, cm, Aa, ca, Ah, ch, As, cs, Ak, nk, ck, rfl, hcell 0 (by omega), hcell 1 (by omega), hcell 2 (by omega), hcell 3 (by omega), hcell 4 (by omega), hcell 5 (by omega), hcell 6 (by omega), r1, r2, r3, r4, r5⟩

/-! ### what is right -/
def cellOK (n : Int) (l : List CellP) (i : Nat) : Prop :=
  0 ≤ (l.getD i cell0).col ∧ (l.getD i cell0).col < n ∧ (0 < i → (l.getD (i - 1) cell0).col < (l.getD i cell0).col) ∧ IntOK (l.getD i cell0).neg (l.getD i cell0).limbs ∧ (l.getD i cell0).limbs ≠ []
instance (n : Int) (l : List CellP) (i : Nat) : Decidable (cellOK n l i) := by unfold cellOK; infer_instance
def cellsOK (n : Int) (l : List CellP) : Prop := ∀ i, i < l.length → cellOK n l i
instance (n : Int) (l : List CellP) : Decidable (cellsOK n l) := by unfold cellsOK; infer_instance
def rowOK (n : Int) (r : RowP) : Prop :=
  IntOK r.mneg r.mlimbs ∧ r.mneg = false ∧ r.mlimbs ≠ [] ∧ IntOK r.kneg r.klimbs ∧ cellsOK n r.a ∧ cellsOK n r.h ∧ cellsOK 64 r.s
instance (n : Int) (r : RowP) : Decidable (rowOK n r) := by unfold rowOK; infer_instance
def sysOK (l : List RowP) : Prop := l.length ≤ 48 ∧ ∀ i, i < l.length → rowOK l.length (l.getD i row0)
instance (l : List RowP) : Decidable (sysOK l) := by unfold sysOK; infer_instance
def sysE (l : List RowP) : Int := if sysOK l then 0 else 130

end Go.Proofs.YtmfmfpmkgmkgiaaGreatDoor

namespace Go.Proofs.YtmfmfpmkgmkgiaaGreatDoor
open Go.RowKit

open Classical in
noncomputable def gr (w p : World) : World := if w.grownBy p none then p else w
theorem gr_grown (w p : World) : w.grownBy (gr w p) none := by
  unfold gr; split
  · assumption
  · exact gb_refl _ _
theorem gr_of {w p : World} (h : w.grownBy p none) : p = gr w p := by unfold gr; rw [if_pos h]
theorem gr_cell {w : World} {a : Nat} {o : Nat} {v : Value} (h : w.cell? ⟨a, o, none⟩ = some v) (p : World) : (gr w p).cell? ⟨a, o, none⟩ = some v := gb_cell (gr_grown w p) h (by simp)

theorem wp_region_gr {P : Program} {id : Nat} {Q : Exit → Act → World → Prop} {a : Act} {w : World} {l : List Oper} (hm : P.follows .mixedOrders = true) (hB : Region.lexB .any l.toArray = true)
    (h : wpQuiet P l.toArray (fun w' => ∃ p : World, w' = gr w p) (fun a' => ∀ w', (∃ p : World, w' = gr w p) → Q .normal a' w') l a) : (Code.region id l.toArray true).wp P Q a w :=
  wp_region_quiet (C := fun w' => ∃ p : World, w' = gr w p) hm hB ⟨_, gr_of (gb_drew w none)⟩ (by simpa using h)
theorem calls_gr {P : Program} {f : FuncId} {args : Array Value} {w p : World} {v : Value}
    (h : Calls P f args (gr w p) fun e w' => e = .returned v ∧ (gr w p).grownBy w' none) : Calls P f args (gr w p) fun e w'' => e = .returned v ∧ ∃ q : World, w'' = gr w q :=
  h.mono fun _ w' ⟨he, hg⟩ => ⟨he, w', gr_of (gb_trans (gr_grown w p) hg)⟩

end Go.Proofs.YtmfmfpmkgmkgiaaGreatDoor

namespace Go.Proofs.YtmfmfpmkgmkgiaaGreatDoor
open Go.RowKit
open Rat

def ints (l : List Int) : List Value := l.map (Value.int .i64)
theorem ints_length (l : List Int) : (ints l).length = l.length := by simp [ints]
theorem ints_get (l : List Int) (i : Nat) (h : i < l.length) : (ints l)[i]? = some (.int .i64 (l.getD i 0)) := by
  simp [ints, List.getElem?_eq_getElem h, List.getD]
def IntRow (w : World) (v : Value) (l : List Int) : Prop :=
  ∃ A c, v = .slice A l.length c ∧ l.length ≤ c ∧ c ≤ 9223372036854775807 ∧ (∀ x ∈ l, I64 x) ∧
    (0 < l.length → ∃ b o, A = some ⟨b, o, none⟩ ∧ ∀ i, i < l.length → w.cell? ⟨b, o + i, none⟩ = some (.int .i64 (l.getD i 0)))
theorem IntRow.more {w w' : World} {v : Value} {l : List Int} (h : IntRow w v l) (hg : w.grownBy w' none) : IntRow w' v l := by
  obtain ⟨A, c, rfl, h1, h2, h3, h4⟩ := h
  refine ⟨A, c, rfl, h1, h2, h3, fun hp => ?_⟩
  obtain ⟨b, o, rfl, hc⟩ := h4 hp
  exact ⟨b, o, rfl, fun i hi => gb_cell hg (hc i hi) (by simp)⟩
theorem IntRow.ctor {w : World} {v : Value} {l : List Int} (h : IntRow w v l) : ∃ A c, v = .slice A l.length c ∧ l.length ≤ c ∧ c ≤ 9223372036854775807 := by
  obtain ⟨A, c, rfl, h1, h2, _⟩ := h
  exact ⟨A, c, rfl, h1, h2⟩
theorem I64.of_mem {l : List Int} (h : ∀ x ∈ l, I64 x) (i : Nat) : I64 (l.getD i 0) := by
  by_cases hi : i < l.length
  · have : l.getD i 0 = l[i] := by simp [List.getD, List.getElem?_eq_getElem hi]
    rw [this]; exact h _ (List.getElem_mem _)
  · have : l.getD i 0 = 0 := by simp [List.getD, List.getElem?_eq_none (Nat.le_of_not_lt hi)]
    rw [this]; exact ⟨by decide, by decide⟩
theorem IntRow.at {w : World} {A : Option Addr} {n c : Nat} {l : List Int} (h : IntRow w (.slice A n c) l) {i : Nat} (hi : i < l.length) :
    ∃ b o, A = some ⟨b, o, none⟩ ∧ I64 (l.getD i 0) ∧ w.cell? ⟨b, o + i, none⟩ = some (.int .i64 (l.getD i 0)) := by
  obtain ⟨A0, c0, he, h1, h2, h3, h4⟩ := h
  injection he with e1 e2 e3
  subst e1
  obtain ⟨b, o, rfl, hc⟩ := h4 (by omega)
  exact ⟨b, o, rfl, I64.of_mem h3 i, hc i hi⟩
theorem IntRow.i64 {w : World} {v : Value} {l : List Int} (h : IntRow w v l) (i : Nat) : I64 (l.getD i 0) := by
  obtain ⟨_, _, _, _, _, h3, _⟩ := h
  exact I64.of_mem h3 i
def stepOK (s : Int) : Prop := 0 ≤ s ∧ s ≤ 1000000000
instance (s : Int) : Decidable (stepOK s) := by unfold stepOK; infer_instance
def kindOK (kind : Int) (vals : List (Int × Int)) (steps : List Int) : Prop :=
  if kind = 1 then vals.length = 1 ∧ steps.length = 0
  else if kind = 2 then vals.length = 2 ∧ steps.length = 5 ∧ 1 ≤ steps.getD 4 0 ∧ steps.getD 1 0 + steps.getD 2 0 + steps.getD 3 0 ≤ steps.getD 4 0
  else if kind = 3 then (∀ i, i < steps.length → 1 ≤ i → steps.getD (i - 1) 0 < steps.getD i 0) ∧ vals.length = steps.length ∧ 1 ≤ vals.length ∧ vals.length ≤ 16
  else if kind = 4 then 1 ≤ vals.length ∧ vals.length ≤ 16 ∧ steps.length = 0
  else False
instance (kind : Int) (vals : List (Int × Int)) (steps : List Int) : Decidable (kindOK kind vals steps) := by unfold kindOK; infer_instance
def WaveOK (kind : Int) (vals : List (Int × Int)) (steps : List Int) : Prop := vals.all numOK = true ∧ (∀ i, i < steps.length → stepOK (steps.getD i 0)) ∧ kindOK kind vals steps
instance (kind : Int) (vals : List (Int × Int)) (steps : List Int) : Decidable (WaveOK kind vals steps) := by unfold WaveOK; infer_instance

theorem wave_no_val {kind : Int} {vals : List (Int × Int)} {steps : List Int} {k : Nat} (hk : k < vals.length) (h : numOK (vals.getD k (0, 0)) = false) : decide (WaveOK kind vals steps) = false := by
  rw [decide_eq_false_iff_not]
  intro hh
  have := all_false_at hk h
  rw [hh.1] at this
  cases this
theorem wave_no_step {kind : Int} {vals : List (Int × Int)} {steps : List Int} {k : Nat} (hk : k < steps.length) (h : ¬ stepOK (steps.getD k 0)) : decide (WaveOK kind vals steps) = false := by
  rw [decide_eq_false_iff_not]
  exact fun hh => h (hh.2.1 k hk)

set_option maxRecDepth 100000 in
set_option maxHeartbeats 40000000 in
theorem WValid_calls (w : World) (kind : Int) (vv sv : Value) (vals : List (Int × Int)) (steps : List Int) (hv : NumRow w vv vals) (hs : IntRow w sv steps) :
    Calls Tryz.prog 123 #[.agg #[.int .i64 kind, vv, sv]] w fun e w' => e = .returned (.bool (decide (WaveOK kind vals steps))) ∧ w.grownBy w' none := by
  have hvi := hv.i64
  have HV := Lib.hid hv
  have HS := Lib.hid hs
  obtain ⟨A1, c1, rfl, a1, a2, _, _⟩ := hv
  obtain ⟨A2, c2, rfl, b1, b2, _, _⟩ := hs
  have gw := gb_alloc w (.cells #[.int .i64 kind, .slice A1 vals.length c1, .slice A2 steps.length c2] 85) none
  have hB := Blk.new w #[.int .i64 kind, .slice A1 vals.length c1, .slice A2 steps.length c2] 85
  obtain ⟨D, hD⟩ : ∃ D, decide (WaveOK kind vals steps) = D := ⟨_, rfl⟩
  rw [hD]
  have HD := Lib.hid hD
  clear hD
  have m0 := hB.cell 0
  have m1 := hB.cell 1
  have m2 := hB.cell 2
  simp only [List.getElem?_toArray, List.getElem?_cons_zero, List.getElem?_cons_succ] at m0 m1 m2
  go_enter Tryz.func123, Tryz.ntmps123
  go_wp2_with fail
  generalize w.alloc (.cells #[.int .i64 kind, .slice A1 vals.length c1, .slice A2 steps.length c2] 85) = wa at *
  generalize hsz : w.heap.size = s at *
  go_loopw [11] (fun i wr => ∃ k : Nat, k ≤ vals.length ∧ i = .int .i64 k ∧ wa.grownBy wr none ∧ Hid (∀ t, t < k → numOK (vals.getD t (0, 0)) = true)) (fun i _ => (vals.length - intOf i).toNat)
  case atStart => exact ⟨0, by omega, rfl, gb_refl _ _, Lib.hid (fun t ht => by omega)⟩
  case round =>
    obtain ⟨k, hk, rfl, hg, hb⟩ := hrel
    by_cases hlt : k < vals.length
    · have hrow := HV.out
      obtain ⟨A', c', he, _, _, _, h4⟩ := hrow
      obtain ⟨b, o, rfl, hc⟩ := h4 (by omega)
      injection he with he1 he2 he3
      subst he1
      obtain ⟨p0, p1⟩ := hc k hlt
      have q0 := gb_cell (gb_trans gw hg) p0 (by simp)
      have q1 := gb_cell (gb_trans gw hg) p1 (by simp)
      obtain ⟨⟨u1, u2⟩, u3, u4⟩ := hvi k
      clear hc p0 p1 h4 he3
      generalize hp : vals.getD k (0, 0) = p at *
      have HP := Lib.hid hp
      clear hp
      obtain ⟨m, e⟩ := p
      simp only at q0 q1 u1 u2 u3 u4
      go_wp2_with fail
      refine (NValid_calls _ m e u1 u2 u3 u4).mono ?_
      rintro e' w3 ⟨rfl, hg3⟩
      have g3 := gb_trans hg (gb_trans (gb_alloc wr (.cells #[.int .i64 m, .int .i64 e] 25) none) hg3)
      cases hd : decide (NumOK m e) with
      | false =>
        have HF := Lib.hid (wave_no_val (kind := kind) (steps := steps) hlt (by rw [HP.out]; exact hd))
        clear hd
        go_wp2
        go_ret
        exact ⟨ret_bool (by rw [← HD.out]; exact HF.out.symm), gb_trans gw g3⟩
      | true =>
        have HX : Hid (numOK (vals.getD k (0, 0)) = true) := Lib.hid (by rw [HP.out]; exact hd)
        clear hd
        go_wp2
        exact ⟨⟨k + 1, by omega, num_eq (by omega), g3, Lib.hid (fun t ht => by
          by_cases htk : t = k
          · subst htk; exact HX.out
          · exact hb.out t (by omega))⟩, by simp [intOf]; omega⟩
    · obtain rfl : k = vals.length := by omega
      have HA : Hid (vals.all numOK = true) := Lib.hid (all_true_of hb.out)
      have n0 := gb_cell hg m0 (by simp)
      have n1 := gb_cell hg m1 (by simp)
      have n2 := gb_cell hg m2 (by simp)
      have g1 := gb_trans gw hg
      clear hb hB m0 m1 m2 gw hg
      obtain ⟨wo, rfl⟩ : ∃ wo : World, wo = wr := ⟨_, rfl⟩
      go_wp2
      go_loopw [22] (fun i wr => ∃ k : Nat, k ≤ steps.length ∧ i = .int .i64 k ∧ wr = wo ∧ Hid (∀ t, t < k → stepOK (steps.getD t 0))) (fun i _ => (steps.length - intOf i).toNat)
      case atStart => exact ⟨0, by omega, rfl, rfl, Lib.hid (fun t ht => by omega)⟩
      case round =>
        obtain ⟨k, hk, rfl, rfl, hb⟩ := hrel
        by_cases hlt : k < steps.length
        · obtain ⟨b, o, rfl, ⟨u1, u2⟩, q0⟩ := (HS.out.more g1).at hlt
          generalize hp : steps.getD k 0 = x at *
          have HP := Lib.hid hp
          clear hp
          by_cases hx : stepOK x
          · have HX := Lib.hid hx
            obtain ⟨x1, x2⟩ := hx
            have d1 : ¬ x < 0 := by omega
            have d2 : ¬ (1000000000 : Int) < x := by omega
            go_wp2
            exact ⟨⟨k + 1, by omega, num_eq (by omega), trivial, Lib.hid (fun t ht => by
              by_cases htk : t = k
              · subst htk; rw [HP.out]; exact HX.out
              · exact hb.out t (by omega))⟩, by simp [intOf]; omega⟩
          · have HF := Lib.hid (wave_no_step (kind := kind) (vals := vals) hlt (by rw [HP.out]; exact hx))
            have hx' : x < 0 ∨ 1000000000 < x := by unfold stepOK at hx; omega
            clear hx
            rcases hx' with hx' | hx'
            · go_wp2
              go_ret
              exact ⟨ret_bool (by rw [← HD.out]; exact HF.out.symm), g1⟩
            · have d1 : ¬ x < 0 := by omega
              go_wp2
              go_ret
              exact ⟨ret_bool (by rw [← HD.out]; exact HF.out.symm), g1⟩
        · obtain rfl : k = steps.length := by omega
          have HST := Lib.hid (fun t (ht : t < steps.length) => hb.out t ht)
          clear hb hvi
          have hW : D = decide (kindOK kind vals steps) := by
            rw [← HD.out]
            have : WaveOK kind vals steps ↔ kindOK kind vals steps := ⟨fun h => h.2.2, fun h => ⟨HA.out, HST.out, h⟩⟩
            simp only [this]
          have HW := Lib.hid hW
          clear hW
          by_cases h1 : kind = 1
          · subst h1
            have hK : kindOK 1 vals steps ↔ (vals.length = 1 ∧ steps.length = 0) := by unfold kindOK; rw [if_pos rfl]
            have HK := Lib.hid hK
            clear hK
            generalize vals.length = lv at *
            generalize steps.length = ls at *
            go_wp2
            all_goals
              go_ret
              exact ⟨ret_bool (by rw [HW.out, Bool.eq_iff_iff]; simp only [HK.out]; simp; try omega), g1⟩
          have t1 : (kind == 1) = false := by rw [beq_eq_false_iff_ne]; exact h1
          by_cases h2 : kind = 2
          · subst h2
            have hK : kindOK 2 vals steps ↔ (vals.length = 2 ∧ steps.length = 5 ∧ 1 ≤ steps.getD 4 0 ∧ steps.getD 1 0 + steps.getD 2 0 + steps.getD 3 0 ≤ steps.getD 4 0) := by unfold kindOK; rw [if_neg (by decide), if_pos rfl]
            have HK := Lib.hid hK
            clear hK
            by_cases hv2 : vals.length = 2
            · have tv : ((vals.length : Int) == 2) = true := by rw [beq_iff_eq]; omega
              by_cases hs5 : steps.length = 5
              · have ts : ((steps.length : Int) == 5) = true := by rw [beq_iff_eq]; omega
                obtain ⟨b, o, rfl, i4, c4⟩ := (HS.out.more g1).at (i := 4) (by omega)
                obtain ⟨b', o', e', i3, c3⟩ := (HS.out.more g1).at (i := 3) (by omega)
                injection e' with e'; injection e' with e1 e2 _; subst e1 e2
                obtain ⟨b', o', e', i2, c2'⟩ := (HS.out.more g1).at (i := 2) (by omega)
                injection e' with e'; injection e' with e1 e2 _; subst e1 e2
                obtain ⟨b', o', e', i1, c1'⟩ := (HS.out.more g1).at (i := 1) (by omega)
                injection e' with e'; injection e' with e1 e2 _; subst e1 e2
                have s1 := HST.out 1 (by omega)
                have s2 := HST.out 2 (by omega)
                have s3 := HST.out 3 (by omega)
                obtain ⟨u1, u1'⟩ := s1
                obtain ⟨u2, u2'⟩ := s2
                obtain ⟨u3, u3'⟩ := s3
                have f1 : (1 : Int) < (steps.length : Int) := by omega
                have f2 : (2 : Int) < (steps.length : Int) := by omega
                have f3 : (3 : Int) < (steps.length : Int) := by omega
                have f4 : (4 : Int) < (steps.length : Int) := by omega
                have HV2 := Lib.hid hv2
                have HS5 := Lib.hid hs5
                clear hv2 hs5 i1 i2 i3 i4
                generalize steps.getD 1 0 = x1 at *
                generalize steps.getD 2 0 = x2 at *
                generalize steps.getD 3 0 = x3 at *
                generalize steps.getD 4 0 = x4 at *
                by_cases h4 : 1 ≤ x4
                · have t4 : decide (1 ≤ x4) = true := by rw [decide_eq_true_iff]; exact h4
                  have w1 : IntKind.i64.wrap (x1 + x2) = x1 + x2 := IntWalk.i64_in _ (by omega)
                  have w2 : IntKind.i64.wrap (x1 + x2 + x3) = x1 + x2 + x3 := IntWalk.i64_in _ (by omega)
                  go_wp2_with fail
                  go_quiet (fail)
                  go_wp2
                  go_ret
                  exact ⟨ret_bool (by rw [HW.out, Bool.eq_iff_iff]; simp only [HK.out, HV2.out, HS5.out]; simp [h4]), gb_trans g1 (gb_drewN _ _ _)⟩
                · have t4 : decide (1 ≤ x4) = false := by rw [decide_eq_false_iff_not]; exact h4
                  go_wp2_with fail
                  go_quiet (fail)
                  go_wp2
                  go_ret
                  exact ⟨ret_bool (by rw [HW.out, eq_comm, decide_eq_false_iff_not]; rw [HK.out]; exact fun h => by have := h.2.2.1; omega), gb_trans g1 (gb_drewN _ _ _)⟩
              · have ts : ((steps.length : Int) == 5) = false := by rw [beq_eq_false_iff_ne]; omega
                have HS5 := Lib.hid hs5
                clear hs5
                go_wp2_with fail
                go_quiet (fail)
                go_wp2
                go_ret
                exact ⟨ret_bool (by rw [HW.out, eq_comm, decide_eq_false_iff_not]; rw [HK.out]; exact fun h => HS5.out h.2.1), gb_trans g1 (gb_drewN _ _ _)⟩
            · have tv : ((vals.length : Int) == 2) = false := by rw [beq_eq_false_iff_ne]; omega
              have HV2 := Lib.hid hv2
              clear hv2
              go_wp2_with fail
              go_quiet (fail)
              go_wp2
              go_ret
              exact ⟨ret_bool (by rw [HW.out, eq_comm, decide_eq_false_iff_not]; rw [HK.out]; exact fun h => HV2.out h.1), gb_trans g1 (gb_drewN _ _ _)⟩
          have t2 : (kind == 2) = false := by rw [beq_eq_false_iff_ne]; exact h2
          by_cases h4 : kind = 4
          · subst h4
            have hK : kindOK 4 vals steps ↔ (1 ≤ vals.length ∧ vals.length ≤ 16 ∧ steps.length = 0) := by unfold kindOK; rw [if_neg (by decide), if_neg (by decide), if_neg (by decide), if_pos rfl]
            have HK := Lib.hid hK
            clear hK
            generalize vals.length = lv at *
            generalize steps.length = ls at *
            go_wp2
            all_goals
              go_ret
              exact ⟨ret_bool (by rw [HW.out, Bool.eq_iff_iff]; simp only [HK.out]; simp; try omega), g1⟩
          have t4 : (kind == 4) = false := by rw [beq_eq_false_iff_ne]; exact h4
          by_cases h3 : kind = 3
          · subst h3
            have hK : kindOK 3 vals steps ↔ ((∀ i, i < steps.length → 1 ≤ i → steps.getD (i - 1) 0 < steps.getD i 0) ∧ vals.length = steps.length ∧ 1 ≤ vals.length ∧ vals.length ≤ 16) := by unfold kindOK; rw [if_neg (by decide), if_neg (by decide), if_pos rfl]
            have HK := Lib.hid hK
            clear hK
            obtain ⟨wp, rfl⟩ : ∃ wp : World, wp = wr := ⟨_, rfl⟩
            go_wp2
            go_loopw [7] (fun i wr => ∃ k : Nat, (1 ≤ k ∧ (k ≤ steps.length ∨ k = 1)) ∧ i = .int .i64 k ∧ wp.grownBy wr none ∧ Hid (∀ i, i < k → 1 ≤ i → steps.getD (i - 1) 0 < steps.getD i 0)) (fun i _ => (steps.length - intOf i).toNat)
            case atStart => exact ⟨1, by omega, rfl, gb_refl _ _, Lib.hid (fun t ht => by omega)⟩
            case round =>
              obtain ⟨k, hk, rfl, hg, hb⟩ := hrel
              have n0 := gb_cell hg n0 (by simp)
              have n1 := gb_cell hg n1 (by simp)
              have n2 := gb_cell hg n2 (by simp)
              have g2 := gb_trans g1 hg
              by_cases hlt : k < steps.length
              · obtain ⟨m, rfl⟩ : ∃ m, k = m + 1 := ⟨k - 1, by omega⟩
                obtain ⟨b, o, rfl, ⟨u1, u2⟩, q0⟩ := (HS.out.more g2).at hlt
                obtain ⟨b', o', e', ⟨u3, u4⟩, q1⟩ := (HS.out.more g2).at (i := m) (by omega)
                injection e' with e'; injection e' with e1 e2 _; subst e1 e2
                have e1 : (m : Int) + 1 < (steps.length : Int) := by omega
                have e2 : (m : Int) < (steps.length : Int) := by omega
                have e3 : ((m : Int) + 1).toNat = m + 1 := by omega
                have e4 : (0 : Int) ≤ (m : Int) + 1 := by omega
                have e5 : IntKind.i64.wrap ((m : Int) + 1 - 1) = (m : Int) := by rw [show (m : Int) + 1 - 1 = m by omega]; exact IntWalk.i64_in _ (by omega)
                have e6 : IntKind.i64.wrap (m : Int) = (m : Int) := IntWalk.i64_in _ (by omega)
                have e7 : ((m + 1 : Nat) : Int) = (m : Int) + 1 := by omega
                generalize hx1 : steps.getD (m + 1) 0 = x1 at *
                generalize hx0 : steps.getD m 0 = x0 at *
                have HX : Hid (steps.getD (m + 1) 0 = x1 ∧ steps.getD m 0 = x0) := Lib.hid ⟨hx1, hx0⟩
                clear hx1 hx0 e7 hk
                by_cases hd : x1 ≤ x0
                · have t5 : decide (x1 ≤ x0) = true := by rw [decide_eq_true_iff]; exact hd
                  go_wp2_with fail
                  go_quiet (fail)
                  go_wp2
                  go_ret
                  exact ⟨ret_bool (by
                    rw [HW.out, eq_comm, decide_eq_false_iff_not, HK.out]
                    intro h
                    have := h.1 (m + 1) hlt (by omega)
                    rw [Nat.add_sub_cancel, HX.out.1, HX.out.2] at this
                    omega), gb_trans g2 (gb_drewN _ _ _)⟩
                · have t5 : decide (x1 ≤ x0) = false := by rw [decide_eq_false_iff_not]; exact hd
                  go_wp2_with fail
                  go_quiet (fail)
                  go_wp2
                  exact ⟨⟨m + 1 + 1, by omega, by go_num, gb_trans hg (gb_drewN _ _ _), Lib.hid (fun i hi h1 => by
                    by_cases him : i = m + 1
                    · subst him; rw [Nat.add_sub_cancel, HX.out.1, HX.out.2]; omega
                    · exact hb.out i (by omega) h1)⟩, by simp [intOf]; omega⟩
              · have hge : ¬ (k : Int) < (steps.length : Int) := by omega
                have HR : Hid (∀ i, i < steps.length → 1 ≤ i → steps.getD (i - 1) 0 < steps.getD i 0) := Lib.hid (fun i hi h1 => hb.out i (by omega) h1)
                clear hk hb hlt
                generalize vals.length = lv at *
                generalize hls : steps.length = ls at *
                have HLS := Lib.hid hls
                clear hls
                have e : kindOK 3 vals steps ↔ (lv = ls ∧ 1 ≤ lv ∧ lv ≤ 16) := by rw [HK.out]; exact ⟨fun h => h.2, fun h => ⟨HR.out, h⟩⟩
                have HE := Lib.hid e
                clear e
                go_wp2
                all_goals
                  go_ret
                  exact ⟨ret_bool (by rw [HW.out, Bool.eq_iff_iff]; simp only [HE.out]; simp; try omega), g2⟩
          have t3 : (kind == 3) = false := by rw [beq_eq_false_iff_ne]; exact h3
          have hK : ¬ kindOK kind vals steps := by unfold kindOK; rw [if_neg h1, if_neg h2, if_neg h3, if_neg h4]; exact fun h => h
          have HK := Lib.hid hK
          clear hK h1 h2 h3 h4
          go_wp2
          all_goals
            go_ret
            exact ⟨ret_bool (by rw [HW.out, eq_comm, decide_eq_false_iff_not]; exact HK.out), g1⟩

end Go.Proofs.YtmfmfpmkgmkgiaaGreatDoor
