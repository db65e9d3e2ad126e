/- tinder: a part of the proof, joined and pruned by wip/tools/prune.py out of: Gir -/
import Derived.Test.YtpalbpakeokimaaFGa
import Derived.Test.YtpalbpakeokimaaFK20
import Derived.Deep.QuietTactic
import Derived.BigQuiet
namespace Go.Proofs.Ytpalbpakeokimaa.PK
set_option linter.unusedVariables false
set_option linter.unusedSimpArgs false
open Go.RowKit Go.Proofs.YtpalbpakeokimaaW.PrintWords Go.Proofs.YtpalbpakeokimaaW.PrintLast Go.Proofs.YtpalbpakeokimaaW.PrintMore
def dict_instRight.f (l0 : List (S80)) (a1_0 : Int) (a1_1 : Int) (a1_2 : ByteArray) (l1_3 : List Int) (l2 : List (S92)) : Option (Bool) := if a1_0 = (-1) then (if a1_1 = (-1) then (if a1_2.toList = ([] : List UInt8) then (some ((l1_3.length : Int) == 0)) else (some false)) else (some false)) else (if a1_0 ≥ 0 then (if a1_0 < (l2.length : Int) then (if 0 ≤ a1_0 then (if (l1_3.length : Int) = (((rd_T92 l2 a1_0).f4).length : Int) then (if (a1_2.size : Int) ≤ 256 then ((strings_Contains.f a1_2 (⟨#[47]⟩ : ByteArray)).bind fun t107 => (if t107 = true then (some false) else (if a1_1 = (-1) then (some true) else ((dict_living.f l0 a1_1).bind fun t108 => (some t108))))) else (some false)) else (some false)) else (none)) else (some false)) else (some false))
set_option maxHeartbeats 8000000 in
set_option maxRecDepth 100000 in
theorem dict_instRight.calls (A0 : Option Addr) (c0 : Nat) (l0 : List (S80)) (a1_0 : Int) (a1_1 : Int) (a1_2 : ByteArray) (A1_3 : Option Addr) (c1_3 : Nat) (l1_3 : List Int) (A2 : Option Addr) (c2 : Nat) (l2 : List (S92)) (r : Bool) (w : World) (hr0 : Kd.C k80 w A0 l0.length l0) (hc0 : l0.length ≤ c0) (hr1_3 : Kd.C (Kd.int .u32) w A1_3 l1_3.length l1_3) (hc1_3 : l1_3.length ≤ c1_3) (hr2 : Kd.C k92 w A2 l2.length l2) (hc2 : l2.length ≤ c2) (h : dict_instRight.f l0 a1_0 a1_1 a1_2 l1_3 l2 = some r) :
    Calls Try.prog 70 #[.slice A0 l0.length c0, .agg #[.int .i64 a1_0, .int .i64 a1_1, .string a1_2, .slice A1_3 l1_3.length c1_3], .slice A2 l2.length c2] w fun e w' => e = .returned (.bool r) ∧ Below w.heap.size w w' := by
  unfold dict_instRight.f at h
  by_cases n1 : a1_0 = -1
  · have d1 : (a1_0 == (-1)) = true := beq_iff_eq.mpr n1
    rw [if_pos n1] at h
    clear hr0 hc0 hr1_3 hc1_3 hr2 hc2 n1
    by_cases p1 : a1_1 = -1
    · have d2 : (a1_1 == (-1)) = true := beq_iff_eq.mpr p1
      rw [if_pos p1] at h
      clear p1
      by_cases s1 : a1_2.toList = []
      · have d3 : a1_2.toList.isEmpty = true := by rw [s1]; rfl
        rw [if_pos s1] at h
        obtain rfl := Option.some.inj h
        clear h
        go_enter Try.func70, Try.ntmps70
        go_wp2
        go_ret
        exact ⟨by first | rfl | simp, by repeat (first | exact Below.refl _ _ | apply below_alloc | apply pw_below_drewN | apply below_drew)⟩
      · rw [if_neg s1] at h
        obtain rfl := Option.some.inj h
        have d3 : a1_2.toList.isEmpty = false := by cases hh : a1_2.toList.isEmpty with | false => rfl | true => exact absurd (by simpa using hh) s1
        clear h
        go_enter Try.func70, Try.ntmps70
        go_wp2
        go_ret
        exact ⟨by first | rfl | simp, by repeat (first | exact Below.refl _ _ | apply below_alloc | apply pw_below_drewN | apply below_drew)⟩
    · have d2 : (a1_1 == (-1)) = false := beq_eq_false_iff_ne.mpr p1
      rw [if_neg p1] at h
      obtain rfl := Option.some.inj h
      clear h p1
      go_enter Try.func70, Try.ntmps70
      go_wp2
      go_ret
      exact ⟨by first | rfl | simp, by repeat (first | exact Below.refl _ _ | apply below_alloc | apply pw_below_drewN | apply below_drew)⟩
  · have d1 : (a1_0 == (-1)) = false := beq_eq_false_iff_ne.mpr n1
    rw [if_neg n1] at h
    by_cases g0 : a1_0 ≥ 0
    · rw [if_pos g0] at h
      have e0 : decide (a1_0 ≥ 0) = true := decide_eq_true g0
      by_cases g1 : a1_0 < (l2.length : Int)
      · rw [if_pos g1, if_pos g0] at h
        have e1 : decide (a1_0 < (l2.length : Int)) = true := decide_eq_true g1
        obtain ⟨ad, A1, c1, A3, c3, A4, c4, ea, h0, h1, h2, h3, h4, hl1, hi1, hl3, hi3, hl4, hi4⟩ := at_T92 hr2 a1_0 g0 g1
        cases ea
        clear h0 h1 h2 h3 hl1 hi1 hl3 hi3 hl4 hi4
        have hb4 := World.block_lt_of_cell? w _ h4
        have p0 := eq_true g0
        have p1 := eq_true g1
        have dlc : Aside0 (dict_living.f l0 a1_1 = dict_living.f l0 a1_1) := ⟨rfl⟩
        generalize rd_T92 l2 a1_0 = y at *
        by_cases q1 : (l1_3.length : Int) = (y.f4.length : Int)
        · rw [if_pos q1] at h
          have b1 : ((l1_3.length : Int) == (y.f4.length : Int)) = true := beq_iff_eq.mpr q1
          by_cases q2 : (a1_2.size : Int) ≤ 256
          · rw [if_pos q2] at h
            have b2 : decide ((a1_2.size : Int) ≤ 256) = true := decide_eq_true q2
            obtain ⟨sc, hsc⟩ : ∃ sc, strings_Contains.f a1_2 ⟨#[47]⟩ = some sc := ⟨_, by unfold strings_Contains.f; rw [if_pos rfl]⟩
            have hcq : ∀ W : World, Calls Try.prog 92 #[.string a1_2, .string ⟨#[47]⟩] W fun e w' => e = .returned (.bool sc) ∧ ∃ m, w' = W.drewN m := fun W => (strings_Contains.calls a1_2 _ sc W hsc).mono fun e w' ⟨he, hw⟩ => ⟨he, hw.out⟩
            rw [hsc, Option.bind_some] at h
            clear hsc
            cases sc with
            | true =>
              rw [if_pos rfl] at h
              obtain rfl := Option.some.inj h
              have HCQ := Aside0.mk hcq
              clear hcq h hr0 hc0 hr1_3 hc1_3 hr2 hc2 n1 g0 g1 q1 q2
              go_enter Try.func70, Try.ntmps70
              go_wp2
              go_quiet ((go_at_call 92; exact Calls.quiet_of (HCQ.out _)))
              go_wp2
              go_ret
              exact ⟨by first | rfl | simp, by repeat (first | exact Below.refl _ _ | apply below_alloc | apply pw_below_drewN | apply below_drew)⟩
            | false =>
              rw [if_neg Bool.false_ne_true] at h
              by_cases q3 : a1_1 = -1
              · rw [if_pos q3] at h
                obtain rfl := Option.some.inj h
                have b3 : (a1_1 == (-1)) = true := beq_iff_eq.mpr q3
                have HCQ := Aside0.mk hcq
                clear hcq h hr0 hc0 hr1_3 hc1_3 hr2 hc2 n1 g0 g1 q1 q2 q3
                go_enter Try.func70, Try.ntmps70
                go_wp2
                go_quiet ((go_at_call 92; exact Calls.quiet_of (HCQ.out _)))
                go_wp2
                go_ret
                exact ⟨by first | rfl | simp, by repeat (first | exact Below.refl _ _ | apply below_alloc | apply pw_below_drewN | apply below_drew)⟩
              · rw [if_neg q3] at h
                have b3 : (a1_1 == (-1)) = false := beq_eq_false_iff_ne.mpr q3
                obtain ⟨lv, hlv, h⟩ := Option.bind_eq_some_iff.mp h
                obtain rfl := Option.some.inj h
                have hlq : ∀ W : World, Below w.heap.size w W → Calls Try.prog 69 #[.slice A0 l0.length c0, .int .i64 a1_1] W fun e w' => e = .returned (.bool lv) ∧ ∃ m, w' = W.drewN m := fun W hb => (dict_living.calls A0 c0 l0 a1_1 lv W (Kd.C_below hr0 hb) hc0 hlv).mono fun e w' ⟨he, hw⟩ => ⟨he, hw.out⟩
                have HCQ := Aside0.mk hcq
                have HLQ := Aside0.mk hlq
                clear hcq hlq hlv h hr0 hc0 hr1_3 hc1_3 hr2 hc2 n1 g0 g1 q1 q2 q3
                go_enter Try.func70, Try.ntmps70
                go_wp2
                go_quiet (first | (go_at_call 92; exact Calls.quiet_of (HCQ.out _)) | (go_at_call 69; exact Calls.quiet_of (HLQ.out _ (by repeat (first | exact Below.refl _ _ | apply below_alloc | apply pw_below_drewN | apply below_drew)))))
                go_wp2
                go_ret
                exact ⟨by first | rfl | simp, by repeat (first | exact Below.refl _ _ | apply below_alloc | apply pw_below_drewN | apply below_drew)⟩
          · rw [if_neg q2] at h
            obtain rfl := Option.some.inj h
            have b2 : decide ((a1_2.size : Int) ≤ 256) = false := decide_eq_false q2
            clear h hr0 hc0 hr1_3 hc1_3 hr2 hc2 n1 g0 g1 q1 q2
            go_enter Try.func70, Try.ntmps70
            go_wp2
            go_quiet (fail)
            go_wp2
            go_ret
            exact ⟨by first | rfl | simp, by repeat (first | exact Below.refl _ _ | apply below_alloc | apply pw_below_drewN | apply below_drew)⟩
        · rw [if_neg q1] at h
          obtain rfl := Option.some.inj h
          have b1 : ((l1_3.length : Int) == (y.f4.length : Int)) = false := beq_eq_false_iff_ne.mpr q1
          clear h hr0 hc0 hr1_3 hc1_3 hr2 hc2 n1 g0 g1 q1
          go_enter Try.func70, Try.ntmps70
          go_wp2
          go_quiet (fail)
          go_wp2
          go_ret
          exact ⟨by first | rfl | simp, by repeat (first | exact Below.refl _ _ | apply below_alloc | apply pw_below_drewN | apply below_drew)⟩
      · rw [if_neg g1] at h
        obtain rfl := Option.some.inj h
        have e1 : decide (a1_0 < (l2.length : Int)) = false := decide_eq_false g1
        clear h hr0 hc0 hr1_3 hc1_3 hr2 hc2 n1 g0 g1
        go_enter Try.func70, Try.ntmps70
        go_wp2
        go_quiet (fail)
        go_wp2
        go_ret
        exact ⟨by first | rfl | simp, by repeat (first | exact Below.refl _ _ | apply below_alloc | apply pw_below_drewN | apply below_drew)⟩
    · rw [if_neg g0] at h
      obtain rfl := Option.some.inj h
      have e0 : decide (a1_0 ≥ 0) = false := decide_eq_false g0
      clear h hr0 hc0 hr1_3 hc1_3 hr2 hc2 n1 g0
      go_enter Try.func70, Try.ntmps70
      go_wp2
      go_quiet (fail)
      go_wp2
      go_ret
      exact ⟨by first | rfl | simp, by repeat (first | exact Below.refl _ _ | apply below_alloc | apply pw_below_drewN | apply below_drew)⟩
end Go.Proofs.Ytpalbpakeokimaa.PK
