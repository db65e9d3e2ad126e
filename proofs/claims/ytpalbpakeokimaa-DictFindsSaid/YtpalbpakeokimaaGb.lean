/- What dict.Named answers: by the contract of strings.IndexFunc. -/
import Derived.Test.YtpalbpakeokimaaK0
import Derived.Shelf.GgClosure.StringsIndexFuncTop
namespace Go.Proofs.Ytpalbpakeokimaa.PK
set_option linter.unusedVariables false
set_option linter.unusedSimpArgs false
open Go.RowKit Go.Proofs.YtpalbpakeokimaaW.PrintWords Go.Proofs.YtpalbpakeokimaaW.PrintLast Go.Proofs.YtpalbpakeokimaaW.PrintMore
open Go.Shelf
def Try.laysGw15_ren : Go.Shelf.Ren := ⟨fun | 15 => 31 | 20 => 62 | n => n, fun | 9 => 9 | 23 => 58 | 3 => 3 | 4 => 4 | 0 => 0 | 21 => 21 | n => n, fun | n => n⟩
theorem Try.laysGw15 : Go.Proofs.LaysGw.n15 Try.prog Try.laysGw15_ren := {
  mixed := by kernel_rfl
  f15 := Try.func31.trans (congrArg some (by kernel_rfl))
  f20 := Try.func62.trans (congrArg some (by kernel_rfl))
  t0 := Try.underlying0
  a0 := Try.isAgg0
  z0 := Try.sizeOf0
  v0 := Try.zeroValue0
  i0 := by kernel_rfl
  t3 := Try.underlying3
  a3 := Try.isAgg3
  z3 := Try.sizeOf3
  v3 := Try.zeroValue3
  i3 := by kernel_rfl
  t4 := Try.underlying4
  a4 := Try.isAgg4
  z4 := Try.sizeOf4
  v4 := Try.zeroValue4
  i4 := by kernel_rfl
  t9 := Try.underlying9
  a9 := Try.isAgg9
  z9 := Try.sizeOf9
  v9 := Try.zeroValue9
  i9 := by kernel_rfl
  t21 := Try.underlying21
  a21 := Try.isAgg21
  z21 := Try.sizeOf21
  v21 := Try.zeroValue21
  i21 := by kernel_rfl
  t23 := Try.underlying58
  a23 := Try.isAgg58
  z23 := Try.sizeOf58
  v23 := Try.zeroValue58
  i23 := by kernel_rfl }
/-- a character that no word's name has -/
def odd (c : Nat) : Bool := decide (c ≤ 32) || decide (126 < c) || (decide (65 ≤ c) && decide (c ≤ 90))
set_option maxHeartbeats 1000000 in
theorem odd_at (W : World) (r : Nat) : FnGives Try.prog 30 #[] #[encR r] (.bool (odd r)) W := by
  unfold FnGives encR
  by_cases h1 : r ≤ 32
  · have e : odd r = true := by simp [odd, h1]
    rw [e]
    have d1 : decide ((r : Int) ≤ 32) = true := by simp; omega
    go_enter Try.func30, Try.ntmps30
    go_wp2
    go_ret
    exact ⟨rfl, 0, rfl⟩
  · have d1 : decide ((r : Int) ≤ 32) = false := by simp; omega
    by_cases h2 : 126 < r
    · have e : odd r = true := by simp [odd, h2]
      rw [e]
      have d2 : decide (126 < (r : Int)) = true := by simp; omega
      go_enter Try.func30, Try.ntmps30
      go_wp2
      go_ret
      exact ⟨rfl, 0, rfl⟩
    · have d2 : decide (126 < (r : Int)) = false := by simp; omega
      by_cases h3 : 65 ≤ r
      · have d3 : decide (65 ≤ (r : Int)) = true := by simp; omega
        have e : odd r = decide ((r : Int) ≤ 90) := by simp [odd, h1, h2, h3]; omega
        rw [e]
        go_enter Try.func30, Try.ntmps30
        go_wp2
        go_ret
        exact ⟨rfl, 0, rfl⟩
      · have d3 : decide (65 ≤ (r : Int)) = false := by simp; omega
        have e : odd r = false := by simp [odd, h1, h2, h3]
        rw [e]
        go_enter Try.func30, Try.ntmps30
        go_wp2
        go_ret
        exact ⟨rfl, 0, rfl⟩
def dict_Named.f (a0 : ByteArray) : Option (Bool) := some (decide (1 ≤ a0.size) && decide (a0.size ≤ 31) && decide (Lib.idxFunc odd true a0 < 0))
set_option maxHeartbeats 1000000 in
theorem dict_Named.calls (a0 : ByteArray) (r : Bool) (w : World) (h : dict_Named.f a0 = some r) :
    Calls Try.prog 12 #[.string a0] w fun e w' => e = .returned (.bool r) ∧ Below w.heap.size w w' := by
  obtain rfl := Option.some.inj h
  clear h
  have hc := Any.strings_IndexFunc Try.laysGw15 30 #[] (enters_of Try.func30 (by kernel_rfl) rfl) odd a0 w (fun W x _ => odd_at W x)
  change Calls Try.prog 31 _ _ _ at hc
  obtain ⟨I, hI⟩ : ∃ I, Lib.idxFunc odd true a0 = I := ⟨_, rfl⟩
  rw [hI] at hc ⊢
  clear hI
  have hem : a0.toList.isEmpty = decide (a0.size = 0) := by
    have hl : a0.toList.length = a0.size := by rw [ByteArray.toList_eq]; simp
    rw [← hl]
    cases a0.toList <;> simp
  by_cases h1 : a0.size = 0
  · have n1 : a0.toList.isEmpty = true := by rw [hem]; simpa using h1
    have n2 : decide (1 ≤ a0.size) = false := decide_eq_false (by omega)
    rw [n2]
    clear hem h1
    go_enter Try.func12, Try.ntmps12
    go_wp2
    go_ret
    exact ⟨rfl, Below.refl _ _⟩
  · have n1 : a0.toList.isEmpty = false := by rw [hem]; simpa using h1
    have n2 : decide (1 ≤ a0.size) = true := decide_eq_true (by omega)
    by_cases h2 : a0.size ≤ 31
    · have e2 : decide (a0.size ≤ 31) = true := by simpa using h2
      have e3 : decide ((a0.size : Int) ≤ 31) = true := by simp; omega
      rw [n2, e2]
      clear hem h1 h2
      go_enter Try.func12, Try.ntmps12
      go_wp2_with (go_at_call 31; refine hc.mono ?_; rintro e w' ⟨rfl, hb⟩)
      go_ret
      exact ⟨rfl, hb⟩
    · have e2 : decide (a0.size ≤ 31) = false := by simpa using h2
      have e3 : decide ((a0.size : Int) ≤ 31) = false := by simp; omega
      rw [n2, e2]
      clear hem h1 h2
      go_enter Try.func12, Try.ntmps12
      go_wp2
      go_ret
      exact ⟨rfl, Below.refl _ _⟩
end Go.Proofs.Ytpalbpakeokimaa.PK
