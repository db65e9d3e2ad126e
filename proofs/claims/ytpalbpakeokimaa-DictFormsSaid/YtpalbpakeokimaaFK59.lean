/- tinder: a part of the proof, joined and pruned by wip/tools/prune.py out of: K59 -/
import Derived.Test.YtpalbpakeokimaaFK0
namespace Go.Proofs.Ytpalbpakeokimaa.PK
open Go.RowKit Go.Proofs.YtpalbpakeokimaaW.PrintWords Go.Proofs.YtpalbpakeokimaaW.PrintLast Go.Proofs.YtpalbpakeokimaaW.PrintMore
attribute [local go_sem] max2_int min2_int max_two min_two max_three min_three max_four min_four
set_option linter.unusedVariables false
set_option linter.unusedSimpArgs false
def tinderref09_alive.f (l0 : List (S80)) (a1 : Int) : Option (Bool) := if a1 ≥ 0 then (if a1 < (l0.length : Int) then (if 0 ≤ a1 then (some (decide (((rd_T80 l0 a1).f0) ≥ 0))) else (none)) else (some false)) else (some false)
set_option maxHeartbeats 8000000 in
set_option maxRecDepth 100000 in
theorem tinderref09_alive.calls (A0 : Option Addr) (c0 : Nat) (l0 : List (S80)) (a1 : Int) (r : Bool) (w : World) (hr0 : Kd.C k80 w A0 l0.length l0) (hc0 : l0.length ≤ c0) (h : tinderref09_alive.f l0 a1 = some r) :
    Calls Try.prog 44 #[.slice A0 l0.length c0, .int .i64 a1] w fun e w' => e = .returned (.bool r) ∧ Drawn0 w w' := by
  have HR0 := Aside0.mk hr0
  have HC0 := Aside0.mk hc0
  clear hr0 hc0
  have H : (if a1 ≥ 0 then (if a1 < (l0.length : Int) then (if 0 ≤ a1 then (some (decide (((rd_T80 l0 a1).f0) ≥ 0))) else (none)) else (some false)) else (some false)) = some r := h
  clear h
  by_cases c3 : a1 ≥ 0
  · rw [if_pos c3] at H
    have c3b0 : decide (0 ≤ a1) = true := decide_eq_true c3
    clear c3
    by_cases c4 : a1 < (l0.length : Int)
    · rw [if_pos c4] at H
      have c4b0 : decide (a1 < (l0.length : Int)) = true := decide_eq_true c4
      clear c4
      by_cases c5 : 0 ≤ a1
      · rw [if_pos c5] at H
        have c5b0 : decide (0 ≤ a1) = true := decide_eq_true c5
        clear c5
        obtain rfl := Option.some.inj H
        have p175 : 0 ≤ (a1 : Int) := of_decide_eq_true (by first | (with_reducible assumption) | assumption)
        have q175 : a1 < (l0.length : Int) := of_decide_eq_true (by first | (with_reducible assumption) | assumption)
        obtain ⟨ad175, A175_3, c175_3, e175, hx175_0, hx175_1, hx175_2, hx175_3, hl175_3, hi175_3⟩ := at_T80 HR0.out a1 p175 q175
        cases e175
        have HR175_3 := Aside0.mk hi175_3
        have HC175_3 := Aside0.mk hl175_3
        clear hi175_3 hl175_3
        replace p175 := eq_true p175
        replace q175 := eq_true q175
        go_enter Try.func44, Try.ntmps44
        go_wp2
        go_ret
        exact ⟨by first | rfl | (simp; done) | (simp [*]; done), by repeat (first | exact Drawn0.refl _ | apply Drawn0.step)⟩
      · rw [if_neg c5] at H
        exact absurd H (by simp)
    · rw [if_neg c4] at H
      have c4b0 : decide (a1 < (l0.length : Int)) = false := decide_eq_false c4
      clear c4
      obtain rfl := Option.some.inj H
      go_enter Try.func44, Try.ntmps44
      go_wp2
      go_ret
      exact ⟨by first | rfl | (simp; done) | (simp [*]; done), by repeat (first | exact Drawn0.refl _ | apply Drawn0.step)⟩
  · rw [if_neg c3] at H
    have c3b0 : decide (0 ≤ a1) = false := decide_eq_false c3
    clear c3
    obtain rfl := Option.some.inj H
    go_enter Try.func44, Try.ntmps44
    go_wp2
    go_ret
    exact ⟨by first | rfl | (simp; done) | (simp [*]; done), by repeat (first | exact Drawn0.refl _ | apply Drawn0.step)⟩
end Go.Proofs.Ytpalbpakeokimaa.PK
