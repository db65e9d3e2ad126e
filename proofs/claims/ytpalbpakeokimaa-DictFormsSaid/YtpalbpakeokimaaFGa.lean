/- tinder: a part of the proof, joined and pruned by wip/tools/prune.py out of: Ga -/
import Derived.Test.YtpalbpakeokimaaFK0
import Derived.Shelf.Strings.Search1
import Derived.Shelf.Strings.Search2
import Derived.Shelf.Strings.Search3
import Derived.Shelf.Small.Strs
import Derived.Shelf.GgClosure.StringsIndexFuncTop
namespace Go.Proofs.Ytpalbpakeokimaa.PK
set_option linter.unusedVariables false
set_option linter.unusedSimpArgs false
open Go.RowKit Go.Proofs.YtpalbpakeokimaaW.PrintWords Go.Proofs.YtpalbpakeokimaaW.PrintLast Go.Proofs.YtpalbpakeokimaaW.PrintMore
open Go.Shelf
def Try.lays137_ren : Go.Shelf.Ren := ⟨fun | 137 => 88 | 217 => 97 | 266 => 99 | n => n, fun | 9 => 9 | 5 => 5 | 3 => 3 | n => n, fun | n => n⟩
theorem Try.lays137 : Go.Proofs.Lays.n137 Try.prog Try.lays137_ren := {
  mixed := by kernel_rfl
  f137 := Try.func88.trans (congrArg some (by kernel_rfl))
  f217 := Try.func97.trans (congrArg some (by kernel_rfl))
  f266 := Try.func99.trans (congrArg some (by kernel_rfl))
  t3 := Try.underlying3
  a3 := Try.isAgg3
  z3 := Try.sizeOf3
  v3 := Try.zeroValue3
  t5 := Try.underlying5
  a5 := Try.isAgg5
  z5 := Try.sizeOf5
  v5 := Try.zeroValue5
  t9 := Try.underlying9
  a9 := Try.isAgg9
  z9 := Try.sizeOf9
  v9 := Try.zeroValue9 }
def Try.lays144_ren : Go.Shelf.Ren := ⟨fun | 144 => 92 | 143 => 98 | 219 => 100 | 217 => 97 | 225 => 101 | 224 => 102 | 267 => 103 | 266 => 99 | 314 => 104 | n => n, fun | 9 => 9 | 4 => 4 | 3 => 3 | 5 => 5 | 46 => 123 | 146 => 124 | 51 => 31 | n => n, fun | 1 => 0 | n => n⟩
theorem Try.lays144 : Go.Proofs.Lays.n144 Try.prog Try.lays144_ren := {
  mixed := by kernel_rfl
  f143 := Try.func98.trans (congrArg some (by kernel_rfl))
  f144 := Try.func92.trans (congrArg some (by kernel_rfl))
  f217 := Try.func97.trans (congrArg some (by kernel_rfl))
  f219 := Try.func100.trans (congrArg some (by kernel_rfl))
  f224 := Try.func102.trans (congrArg some (by kernel_rfl))
  f225 := Try.func101.trans (congrArg some (by kernel_rfl))
  f266 := Try.func99.trans (congrArg some (by kernel_rfl))
  f267 := Try.func103.trans (congrArg some (by kernel_rfl))
  f314 := Try.func104.trans (congrArg some (by kernel_rfl))
  t3 := Try.underlying3
  a3 := Try.isAgg3
  z3 := Try.sizeOf3
  v3 := Try.zeroValue3
  t4 := Try.underlying4
  a4 := Try.isAgg4
  z4 := Try.sizeOf4
  v4 := Try.zeroValue4
  t5 := Try.underlying5
  a5 := Try.isAgg5
  z5 := Try.sizeOf5
  v5 := Try.zeroValue5
  t9 := Try.underlying9
  a9 := Try.isAgg9
  z9 := Try.sizeOf9
  v9 := Try.zeroValue9
  t46 := Try.underlying123
  a46 := Try.isAgg123
  z46 := Try.sizeOf123
  v46 := Try.zeroValue123
  t51 := Try.underlying31
  a51 := Try.isAgg31
  z51 := Try.sizeOf31
  v51 := Try.zeroValue31
  t146 := Try.underlying124
  a146 := Try.isAgg124
  z146 := Try.sizeOf124
  v146 := Try.zeroValue124
  g1 := by kernel_rfl }
def strings_IndexByte.f (a0 : ByteArray) (a1 : Int) : Option (Int) := some (Lib.indexByte a0.data.toList a1.toNat.toUInt8)
theorem strings_IndexByte.calls (a0 : ByteArray) (a1 : Int) (r : Int) (w : World) (h : strings_IndexByte.f a0 a1 = some r) :
    Calls Try.prog 88 #[.string a0, .int .u8 a1] w fun e w' => e = .returned (.int .i64 r) ∧ Drawn0 w w' := by
  obtain rfl := Option.some.inj h
  exact (Any.strings_IndexByte Try.lays137 a0 a1 w).mono fun e w' ⟨he, hw⟩ => ⟨he, hw ▸ Drawn0.refl _⟩
def strings_Contains.f (a0 : ByteArray) (a1 : ByteArray) : Option (Bool) := if a1 = ⟨#[47]⟩ then some (decide (0 ≤ Lib.indexByte a0.data.toList 47)) else none
theorem strings_Contains.calls (a0 : ByteArray) (a1 : ByteArray) (r : Bool) (w : World) (h : strings_Contains.f a0 a1 = some r) :
    Calls Try.prog 92 #[.string a0, .string a1] w fun e w' => e = .returned (.bool r) ∧ Drawn0 w w' := by
  unfold strings_Contains.f at h
  split at h
  · rename_i h1
    subst h1
    obtain rfl := Option.some.inj h
    exact (Any.strings_Contains_one Try.lays144 a0 47 w).mono fun e w' ⟨he, hw⟩ => ⟨he, hw ▸ Drawn0.refl _⟩
  · cases h
end Go.Proofs.Ytpalbpakeokimaa.PK
namespace Go.Proofs.Ytpalbpakeokimaa.PK
set_option linter.unusedVariables false
set_option linter.unusedSimpArgs false
open Go.RowKit Go.Proofs.YtpalbpakeokimaaW.PrintWords Go.Proofs.YtpalbpakeokimaaW.PrintLast Go.Proofs.YtpalbpakeokimaaW.PrintMore
open Go.Shelf
def Try.laysGw15_ren : Go.Shelf.Ren := ⟨fun | 15 => 31 | 20 => 62 | n => n, fun | 9 => 9 | 23 => 58 | 3 => 3 | 4 => 4 | 0 => 0 | 21 => 21 | n => n, fun | n => n⟩
theorem Try.laysGw15 : Go.Proofs.LaysGw.n15 Try.prog Try.laysGw15_ren := {
  mixed := by kernel_rfl
  f15 := Try.func31.trans (congrArg some (by kernel_rfl))
  f20 := Try.func62.trans (congrArg some (by kernel_rfl))
  t0 := Try.underlying0
  a0 := Try.isAgg0
  z0 := Try.sizeOf0
  v0 := Try.zeroValue0
  i0 := by kernel_rfl
  t3 := Try.underlying3
  a3 := Try.isAgg3
  z3 := Try.sizeOf3
  v3 := Try.zeroValue3
  i3 := by kernel_rfl
  t4 := Try.underlying4
  a4 := Try.isAgg4
  z4 := Try.sizeOf4
  v4 := Try.zeroValue4
  i4 := by kernel_rfl
  t9 := Try.underlying9
  a9 := Try.isAgg9
  z9 := Try.sizeOf9
  v9 := Try.zeroValue9
  i9 := by kernel_rfl
  t21 := Try.underlying21
  a21 := Try.isAgg21
  z21 := Try.sizeOf21
  v21 := Try.zeroValue21
  i21 := by kernel_rfl
  t23 := Try.underlying58
  a23 := Try.isAgg58
  z23 := Try.sizeOf58
  v23 := Try.zeroValue58
  i23 := by kernel_rfl }
def odd (c : Nat) : Bool := decide (c ≤ 32) || decide (126 < c) || (decide (65 ≤ c) && decide (c ≤ 90))
set_option maxHeartbeats 1000000 in
theorem odd_at (W : World) (r : Nat) : FnGives Try.prog 30 #[] #[encR r] (.bool (odd r)) W := by
  unfold FnGives encR
  by_cases h1 : r ≤ 32
  · have e : odd r = true := by simp [odd, h1]
    rw [e]
    have d1 : decide ((r : Int) ≤ 32) = true := by simp; omega
    go_enter Try.func30, Try.ntmps30
    go_wp2
    go_ret
    exact ⟨rfl, 0, rfl⟩
  · have d1 : decide ((r : Int) ≤ 32) = false := by simp; omega
    by_cases h2 : 126 < r
    · have e : odd r = true := by simp [odd, h2]
      rw [e]
      have d2 : decide (126 < (r : Int)) = true := by simp; omega
      go_enter Try.func30, Try.ntmps30
      go_wp2
      go_ret
      exact ⟨rfl, 0, rfl⟩
    · have d2 : decide (126 < (r : Int)) = false := by simp; omega
      by_cases h3 : 65 ≤ r
      · have d3 : decide (65 ≤ (r : Int)) = true := by simp; omega
        have e : odd r = decide ((r : Int) ≤ 90) := by simp [odd, h1, h2, h3]; omega
        rw [e]
        go_enter Try.func30, Try.ntmps30
        go_wp2
        go_ret
        exact ⟨rfl, 0, rfl⟩
      · have d3 : decide (65 ≤ (r : Int)) = false := by simp; omega
        have e : odd r = false := by simp [odd, h1, h2, h3]
        rw [e]
        go_enter Try.func30, Try.ntmps30
        go_wp2
        go_ret
        exact ⟨rfl, 0, rfl⟩
def dict_Named.f (a0 : ByteArray) : Option (Bool) := some (decide (1 ≤ a0.size) && decide (a0.size ≤ 31) && decide (Lib.idxFunc odd true a0 < 0))
set_option maxHeartbeats 1000000 in
theorem dict_Named.calls (a0 : ByteArray) (r : Bool) (w : World) (h : dict_Named.f a0 = some r) :
    Calls Try.prog 12 #[.string a0] w fun e w' => e = .returned (.bool r) ∧ Below w.heap.size w w' := by
  obtain rfl := Option.some.inj h
  clear h
  have hc := Any.strings_IndexFunc Try.laysGw15 30 #[] (enters_of Try.func30 (by kernel_rfl) rfl) odd a0 w (fun W x _ => odd_at W x)
  change Calls Try.prog 31 _ _ _ at hc
  obtain ⟨I, hI⟩ : ∃ I, Lib.idxFunc odd true a0 = I := ⟨_, rfl⟩
  rw [hI] at hc ⊢
  clear hI
  have hem : a0.toList.isEmpty = decide (a0.size = 0) := by
    have hl : a0.toList.length = a0.size := by rw [ByteArray.toList_eq]; simp
    rw [← hl]
    cases a0.toList <;> simp
  by_cases h1 : a0.size = 0
  · have n1 : a0.toList.isEmpty = true := by rw [hem]; simpa using h1
    have n2 : decide (1 ≤ a0.size) = false := decide_eq_false (by omega)
    rw [n2]
    clear hem h1
    go_enter Try.func12, Try.ntmps12
    go_wp2
    go_ret
    exact ⟨rfl, Below.refl _ _⟩
  · have n1 : a0.toList.isEmpty = false := by rw [hem]; simpa using h1
    have n2 : decide (1 ≤ a0.size) = true := decide_eq_true (by omega)
    by_cases h2 : a0.size ≤ 31
    · have e2 : decide (a0.size ≤ 31) = true := by simpa using h2
      have e3 : decide ((a0.size : Int) ≤ 31) = true := by simp; omega
      rw [n2, e2]
      clear hem h1 h2
      go_enter Try.func12, Try.ntmps12
      go_wp2_with (go_at_call 31; refine hc.mono ?_; rintro e w' ⟨rfl, hb⟩)
      go_ret
      exact ⟨rfl, hb⟩
    · have e2 : decide (a0.size ≤ 31) = false := by simpa using h2
      have e3 : decide ((a0.size : Int) ≤ 31) = false := by simp; omega
      rw [n2, e2]
      clear hem h1 h2
      go_enter Try.func12, Try.ntmps12
      go_wp2
      go_ret
      exact ⟨rfl, Below.refl _ _⟩
end Go.Proofs.Ytpalbpakeokimaa.PK
