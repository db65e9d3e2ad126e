/- tinder: a part of the proof, joined and pruned by wip/tools/prune.py out of: K56 -/
import Derived.Test.YtpalbpakeokimaaFK0
import Derived.Test.YtpalbpakeokimaaFK55
namespace Go.Proofs.Ytpalbpakeokimaa.PK
open Go.RowKit Go.Proofs.YtpalbpakeokimaaW.PrintWords Go.Proofs.YtpalbpakeokimaaW.PrintLast Go.Proofs.YtpalbpakeokimaaW.PrintMore
attribute [local go_sem] max2_int min2_int max_two min_two max_three min_three max_four min_four
set_option linter.unusedVariables false
set_option linter.unusedSimpArgs false
def tinderref08_twin.l0 : Nat → List (S92) → Int → Int → ByteArray → List Int → Int → Option (Bool)
  | 0, _, _, _, _, _, _ => none
  | k + 1, x0, x1, x2, x3, x4, x11 => if x11 < x1 then (if 0 ≤ x11 then (if x11 < (x0.length : Int) then (if ((rd_T92 x0 x11).f2) = x2 then (if ((rd_T92 x0 x11).f0).toList = x3.toList then ((tinderref03_Same.f k ((rd_T92 x0 x11).f1) x4).bind fun t157 => (if t157 = true then (some true) else (tinderref08_twin.l0 k x0 x1 x2 x3 x4 (wrap64 (x11 + 1))))) else (tinderref08_twin.l0 k x0 x1 x2 x3 x4 (wrap64 (x11 + 1)))) else (tinderref08_twin.l0 k x0 x1 x2 x3 x4 (wrap64 (x11 + 1)))) else (none)) else (none)) else (some false)
def tinderref08_twin.f (k : Nat) (l0 : List (S92)) (a1 : Int) (a2 : Int) (a3 : ByteArray) (l4 : List Int) : Option (Bool) := tinderref08_twin.l0 k l0 a1 a2 a3 l4 0
theorem tinderref08_twin.mono_l : ∀ k, (∀ y0 y1 y2 y3 y4 y5, LeO (tinderref08_twin.l0 k y0 y1 y2 y3 y4 y5) (tinderref08_twin.l0 (k + 1) y0 y1 y2 y3 y4 y5))
  | 0 => fun _ _ _ _ _ _ r h => by simp [tinderref08_twin.l0] at h
  | k + 1 => by
    have ih0 := tinderref08_twin.mono_l k
    · intro y0 y1 y2 y3 y4 y5
      unfold tinderref08_twin.l0
      repeat' first
      | (with_reducible exact ih0 _ _ _ _ _ _)
      | (with_reducible exact tinderref03_Same.mono _ _ _)
      | (with_reducible exact LeO.refl _)
      | (with_reducible exact LeO.none _)
      | (with_reducible refine LeO.ite ?_ ?_)
      | (with_reducible refine LeO.bind ?_ (fun _ => ?_))
      | exact ih0 _ _ _ _ _ _
      | exact tinderref03_Same.mono _ _ _
      | exact LeO.none _
      | refine LeO.ite ?_ ?_
      | refine LeO.bind ?_ (fun _ => ?_)
theorem tinderref08_twin.mono : ∀ a0 a1 a2 a3 a4 k, LeO (tinderref08_twin.f k a0 a1 a2 a3 a4) (tinderref08_twin.f (k + 1) a0 a1 a2 a3 a4) := by
  intro a0 a1 a2 a3 a4 k
  have ih0 := tinderref08_twin.mono_l k
  unfold tinderref08_twin.f
  repeat' first
      | (with_reducible exact ih0 _ _ _ _ _ _)
      | (with_reducible exact tinderref03_Same.mono _ _ _)
      | (with_reducible exact LeO.refl _)
      | (with_reducible exact LeO.none _)
      | (with_reducible refine LeO.ite ?_ ?_)
      | (with_reducible refine LeO.bind ?_ (fun _ => ?_))
      | exact ih0 _ _ _ _ _ _
      | exact tinderref03_Same.mono _ _ _
      | exact LeO.none _
      | refine LeO.ite ?_ ?_
      | refine LeO.bind ?_ (fun _ => ?_)
set_option maxHeartbeats 8000000 in
set_option maxRecDepth 100000 in
theorem tinderref08_twin.calls (k : Nat) (A0 : Option Addr) (c0 : Nat) (l0 : List (S92)) (a1 : Int) (a2 : Int) (a3 : ByteArray) (A4 : Option Addr) (c4 : Nat) (l4 : List Int) (r : Bool) (w : World) (hr0 : Kd.C k92 w A0 l0.length l0) (hc0 : l0.length ≤ c0) (hr4 : Kd.C (Kd.int .u32) w A4 l4.length l4) (hc4 : l4.length ≤ c4) (h : tinderref08_twin.f k l0 a1 a2 a3 l4 = some r) :
    Calls Try.prog 76 #[.slice A0 l0.length c0, .int .i64 a1, .int .i64 a2, .string a3, .slice A4 l4.length c4] w fun e w' => e = .returned (.bool r) ∧ Drawn0 w w' := by
  have HR0 := Aside0.mk hr0
  have HC0 := Aside0.mk hc0
  clear hr0 hc0
  have HR4 := Aside0.mk hr4
  have HC4 := Aside0.mk hc4
  clear hr4 hc4
  have H : (tinderref08_twin.l0 k l0 a1 a2 a3 l4 0) = some r := h
  clear h
  have H' := Aside0.mk H
  clear H
  go_enter Try.func76, Try.ntmps76
  go_wp2
  go_loopg [11] k (fun kq v11 w' => ∃ (x11_1 : Int), v11 = .int .i64 x11_1 ∧ Aside0 (tinderref08_twin.l0 kq l0 a1 a2 a3 l4 x11_1 = some r) ∧ Aside0 (kq ≤ k) ∧ Drawn0 w w')
  case atStart => exact ⟨(0), (by first | rfl | (simp; done) | (simp [*]; done)), H', ⟨Nat.le_refl _⟩, by repeat (first | exact Drawn0.refl _ | apply Drawn0.step)⟩
  case round =>
    clear H'
    try clear p2
    try clear c4
    obtain ⟨x11_1, rfl, HA, HK1, ⟨m1, rfl⟩⟩ := hrel
    cases gk with
    | zero => exact absurd HA.out (by simp [tinderref08_twin.l0])
    | succ k1 =>
      have H := HA.out
      clear HA
      simp only [tinderref08_twin.l0] at H
      by_cases c6 : x11_1 < a1
      · rw [if_pos c6] at H
        have c6b0 : decide (x11_1 < a1) = true := decide_eq_true c6
        clear c6
        by_cases c7 : 0 ≤ x11_1
        · rw [if_pos c7] at H
          have c7b0 : decide (0 ≤ x11_1) = true := decide_eq_true c7
          clear c7
          by_cases c8 : x11_1 < (l0.length : Int)
          · rw [if_pos c8] at H
            have c8b0 : decide (x11_1 < (l0.length : Int)) = true := decide_eq_true c8
            clear c8
            by_cases c9 : ((rd_T92 l0 x11_1).f2) = a2
            · rw [if_pos c9] at H
              have c9b0 : (((rd_T92 l0 x11_1).f2) == a2) = true := beq_iff_eq.mpr c9
              have c9b1 : (((rd_T92 l0 x11_1).f2) != a2) = false := bne_eq_false_iff_eq.mpr c9
              clear c9
              by_cases c10 : ((rd_T92 l0 x11_1).f0).toList = a3.toList
              · rw [if_pos c10] at H
                have c10b0 : (((rd_T92 l0 x11_1).f0).toList == a3.toList) = true := beq_iff_eq.mpr c10
                have c10b1 : (((rd_T92 l0 x11_1).f0).toList != a3.toList) = false := bne_eq_false_iff_eq.mpr c10
                clear c10
                replace H := Option.bind_eq_some_iff.mp H
                obtain ⟨t157, A110, H⟩ := H
                replace H : (if t157 = true then (some true) else (tinderref08_twin.l0 k1 l0 a1 a2 a3 l4 (wrap64 (x11_1 + 1)))) = some r := H
                have A11 := Aside0.mk A110
                clear A110
                by_cases c12 : t157 = true
                · subst c12
                  have H1 : (some true) = some r := by rw [if_pos rfl] at H; exact H
                  clear H
                  have H := H1
                  clear H1
                  obtain rfl := Option.some.inj H
                  have p154 : 0 ≤ (x11_1 : Int) := of_decide_eq_true (by first | (with_reducible assumption) | assumption)
                  have q154 : x11_1 < (l0.length : Int) := of_decide_eq_true (by first | (with_reducible assumption) | assumption)
                  obtain ⟨ad154, A154_1, c154_1, A154_3, c154_3, A154_4, c154_4, e154, hx154_0, hx154_1, hx154_2, hx154_3, hx154_4, hl154_1, hi154_1, hl154_3, hi154_3, hl154_4, hi154_4⟩ := at_T92 HR0.out x11_1 p154 q154
                  cases e154
                  have HR154_1 := Aside0.mk hi154_1
                  have HC154_1 := Aside0.mk hl154_1
                  clear hi154_1 hl154_1
                  have HR154_3 := Aside0.mk hi154_3
                  have HC154_3 := Aside0.mk hl154_3
                  clear hi154_3 hl154_3
                  have HR154_4 := Aside0.mk hi154_4
                  have HC154_4 := Aside0.mk hl154_4
                  clear hi154_4 hl154_4
                  replace p154 := eq_true p154
                  replace q154 := eq_true q154
                  have p155 : 0 ≤ (x11_1 : Int) := of_decide_eq_true (by first | (with_reducible assumption) | assumption)
                  have q155 : x11_1 < (l0.length : Int) := of_decide_eq_true (by first | (with_reducible assumption) | assumption)
                  obtain ⟨ad155, A155_1, c155_1, A155_3, c155_3, A155_4, c155_4, e155, hx155_0, hx155_1, hx155_2, hx155_3, hx155_4, hl155_1, hi155_1, hl155_3, hi155_3, hl155_4, hi155_4⟩ := at_T92 HR0.out x11_1 p155 q155
                  obtain rfl : ad154 = ad155 := (by injection e155)
                  have HR155_1 := Aside0.mk hi155_1
                  have HC155_1 := Aside0.mk hl155_1
                  clear hi155_1 hl155_1
                  have HR155_3 := Aside0.mk hi155_3
                  have HC155_3 := Aside0.mk hl155_3
                  clear hi155_3 hl155_3
                  have HR155_4 := Aside0.mk hi155_4
                  have HC155_4 := Aside0.mk hl155_4
                  clear hi155_4 hl155_4
                  replace p155 := eq_true p155
                  replace q155 := eq_true q155
                  have ea_ := Option.some.inj (hx154_1.symm.trans hx155_1)
                  injection ea_ with ea_ en_ ec_
                  subst ea_
                  subst ec_
                  clear en_
                  have ea_ := Option.some.inj (hx154_3.symm.trans hx155_3)
                  injection ea_ with ea_ en_ ec_
                  subst ea_
                  subst ec_
                  clear en_
                  have ea_ := Option.some.inj (hx154_4.symm.trans hx155_4)
                  injection ea_ with ea_ en_ ec_
                  subst ea_
                  subst ec_
                  clear en_
                  have p156 : 0 ≤ (x11_1 : Int) := of_decide_eq_true (by first | (with_reducible assumption) | assumption)
                  have q156 : x11_1 < (l0.length : Int) := of_decide_eq_true (by first | (with_reducible assumption) | assumption)
                  obtain ⟨ad156, A156_1, c156_1, A156_3, c156_3, A156_4, c156_4, e156, hx156_0, hx156_1, hx156_2, hx156_3, hx156_4, hl156_1, hi156_1, hl156_3, hi156_3, hl156_4, hi156_4⟩ := at_T92 HR0.out x11_1 p156 q156
                  obtain rfl : ad154 = ad156 := (by injection e156)
                  have HR156_1 := Aside0.mk hi156_1
                  have HC156_1 := Aside0.mk hl156_1
                  clear hi156_1 hl156_1
                  have HR156_3 := Aside0.mk hi156_3
                  have HC156_3 := Aside0.mk hl156_3
                  clear hi156_3 hl156_3
                  have HR156_4 := Aside0.mk hi156_4
                  have HC156_4 := Aside0.mk hl156_4
                  clear hi156_4 hl156_4
                  replace p156 := eq_true p156
                  replace q156 := eq_true q156
                  have ea_ := Option.some.inj (hx154_1.symm.trans hx156_1)
                  injection ea_ with ea_ en_ ec_
                  subst ea_
                  subst ec_
                  clear en_
                  have ea_ := Option.some.inj (hx154_3.symm.trans hx156_3)
                  injection ea_ with ea_ en_ ec_
                  subst ea_
                  subst ec_
                  clear en_
                  have ea_ := Option.some.inj (hx154_4.symm.trans hx156_4)
                  injection ea_ with ea_ en_ ec_
                  subst ea_
                  subst ec_
                  clear en_
                  go_wp2_with (first | (go_at_call 80; (with_reducible refine (tinderref03_Same.calls k1 _ _ ((rd_T92 l0 x11_1).f1) _ _ l4 true _ ?side1 ?side2 ?side3 ?side4 A11.out).mono ?_); (case side1 => repeat (first | exact HR156_1.out | (with_reducible refine Kd.C_alloc ?_ _) | (with_reducible refine Kd.C_drewN ?_ _) | (with_reducible refine Kd.C_drew ?_))); (case side2 => exact HC156_1.out); (case side3 => repeat (first | exact HR4.out | (with_reducible refine Kd.C_alloc ?_ _) | (with_reducible refine Kd.C_drewN ?_ _) | (with_reducible refine Kd.C_drew ?_))); (case side4 => exact HC4.out); rintro e w' ⟨rfl, ⟨nd, rfl⟩⟩))
                  go_ret
                  exact ⟨by first | rfl | (simp; done) | (simp [*]; done), by repeat (first | exact Drawn0.refl _ | apply Drawn0.step)⟩
                · replace c12 := Bool.eq_false_iff.mpr c12
                  subst c12
                  have H1 : (tinderref08_twin.l0 k1 l0 a1 a2 a3 l4 (wrap64 (x11_1 + 1))) = some r := by rw [if_neg (show ¬ (false = true) by decide)] at H; exact H
                  clear H
                  have H := H1
                  clear H1
                  have H' := Aside0.mk H
                  clear H
                  have p154 : 0 ≤ (x11_1 : Int) := of_decide_eq_true (by first | (with_reducible assumption) | assumption)
                  have q154 : x11_1 < (l0.length : Int) := of_decide_eq_true (by first | (with_reducible assumption) | assumption)
                  obtain ⟨ad154, A154_1, c154_1, A154_3, c154_3, A154_4, c154_4, e154, hx154_0, hx154_1, hx154_2, hx154_3, hx154_4, hl154_1, hi154_1, hl154_3, hi154_3, hl154_4, hi154_4⟩ := at_T92 HR0.out x11_1 p154 q154
                  cases e154
                  have HR154_1 := Aside0.mk hi154_1
                  have HC154_1 := Aside0.mk hl154_1
                  clear hi154_1 hl154_1
                  have HR154_3 := Aside0.mk hi154_3
                  have HC154_3 := Aside0.mk hl154_3
                  clear hi154_3 hl154_3
                  have HR154_4 := Aside0.mk hi154_4
                  have HC154_4 := Aside0.mk hl154_4
                  clear hi154_4 hl154_4
                  replace p154 := eq_true p154
                  replace q154 := eq_true q154
                  have p155 : 0 ≤ (x11_1 : Int) := of_decide_eq_true (by first | (with_reducible assumption) | assumption)
                  have q155 : x11_1 < (l0.length : Int) := of_decide_eq_true (by first | (with_reducible assumption) | assumption)
                  obtain ⟨ad155, A155_1, c155_1, A155_3, c155_3, A155_4, c155_4, e155, hx155_0, hx155_1, hx155_2, hx155_3, hx155_4, hl155_1, hi155_1, hl155_3, hi155_3, hl155_4, hi155_4⟩ := at_T92 HR0.out x11_1 p155 q155
                  obtain rfl : ad154 = ad155 := (by injection e155)
                  have HR155_1 := Aside0.mk hi155_1
                  have HC155_1 := Aside0.mk hl155_1
                  clear hi155_1 hl155_1
                  have HR155_3 := Aside0.mk hi155_3
                  have HC155_3 := Aside0.mk hl155_3
                  clear hi155_3 hl155_3
                  have HR155_4 := Aside0.mk hi155_4
                  have HC155_4 := Aside0.mk hl155_4
                  clear hi155_4 hl155_4
                  replace p155 := eq_true p155
                  replace q155 := eq_true q155
                  have ea_ := Option.some.inj (hx154_1.symm.trans hx155_1)
                  injection ea_ with ea_ en_ ec_
                  subst ea_
                  subst ec_
                  clear en_
                  have ea_ := Option.some.inj (hx154_3.symm.trans hx155_3)
                  injection ea_ with ea_ en_ ec_
                  subst ea_
                  subst ec_
                  clear en_
                  have ea_ := Option.some.inj (hx154_4.symm.trans hx155_4)
                  injection ea_ with ea_ en_ ec_
                  subst ea_
                  subst ec_
                  clear en_
                  have p156 : 0 ≤ (x11_1 : Int) := of_decide_eq_true (by first | (with_reducible assumption) | assumption)
                  have q156 : x11_1 < (l0.length : Int) := of_decide_eq_true (by first | (with_reducible assumption) | assumption)
                  obtain ⟨ad156, A156_1, c156_1, A156_3, c156_3, A156_4, c156_4, e156, hx156_0, hx156_1, hx156_2, hx156_3, hx156_4, hl156_1, hi156_1, hl156_3, hi156_3, hl156_4, hi156_4⟩ := at_T92 HR0.out x11_1 p156 q156
                  obtain rfl : ad154 = ad156 := (by injection e156)
                  have HR156_1 := Aside0.mk hi156_1
                  have HC156_1 := Aside0.mk hl156_1
                  clear hi156_1 hl156_1
                  have HR156_3 := Aside0.mk hi156_3
                  have HC156_3 := Aside0.mk hl156_3
                  clear hi156_3 hl156_3
                  have HR156_4 := Aside0.mk hi156_4
                  have HC156_4 := Aside0.mk hl156_4
                  clear hi156_4 hl156_4
                  replace p156 := eq_true p156
                  replace q156 := eq_true q156
                  have ea_ := Option.some.inj (hx154_1.symm.trans hx156_1)
                  injection ea_ with ea_ en_ ec_
                  subst ea_
                  subst ec_
                  clear en_
                  have ea_ := Option.some.inj (hx154_3.symm.trans hx156_3)
                  injection ea_ with ea_ en_ ec_
                  subst ea_
                  subst ec_
                  clear en_
                  have ea_ := Option.some.inj (hx154_4.symm.trans hx156_4)
                  injection ea_ with ea_ en_ ec_
                  subst ea_
                  subst ec_
                  clear en_
                  go_wp2_with (first | (go_at_call 80; (with_reducible refine (tinderref03_Same.calls k1 _ _ ((rd_T92 l0 x11_1).f1) _ _ l4 false _ ?side1 ?side2 ?side3 ?side4 A11.out).mono ?_); (case side1 => repeat (first | exact HR156_1.out | (with_reducible refine Kd.C_alloc ?_ _) | (with_reducible refine Kd.C_drewN ?_ _) | (with_reducible refine Kd.C_drew ?_))); (case side2 => exact HC156_1.out); (case side3 => repeat (first | exact HR4.out | (with_reducible refine Kd.C_alloc ?_ _) | (with_reducible refine Kd.C_drewN ?_ _) | (with_reducible refine Kd.C_drew ?_))); (case side4 => exact HC4.out); rintro e w' ⟨rfl, ⟨nd, rfl⟩⟩))
                  go_roundg k1
                  case measure => have := HK1.out; omega
                  case rel => exact ⟨(wrap64 (x11_1 + 1)), (by first | rfl | (simp; done) | (simp [*]; done)), H', ⟨by have := HK1.out; omega⟩, by repeat (first | exact Drawn0.refl _ | apply Drawn0.step)⟩
              · rw [if_neg c10] at H
                have c10b0 : (((rd_T92 l0 x11_1).f0).toList == a3.toList) = false := beq_eq_false_iff_ne.mpr c10
                have c10b1 : (((rd_T92 l0 x11_1).f0).toList != a3.toList) = true := bne_iff_ne.mpr c10
                have H' := Aside0.mk H
                clear H
                have p154 : 0 ≤ (x11_1 : Int) := of_decide_eq_true (by first | (with_reducible assumption) | assumption)
                have q154 : x11_1 < (l0.length : Int) := of_decide_eq_true (by first | (with_reducible assumption) | assumption)
                obtain ⟨ad154, A154_1, c154_1, A154_3, c154_3, A154_4, c154_4, e154, hx154_0, hx154_1, hx154_2, hx154_3, hx154_4, hl154_1, hi154_1, hl154_3, hi154_3, hl154_4, hi154_4⟩ := at_T92 HR0.out x11_1 p154 q154
                cases e154
                have HR154_1 := Aside0.mk hi154_1
                have HC154_1 := Aside0.mk hl154_1
                clear hi154_1 hl154_1
                have HR154_3 := Aside0.mk hi154_3
                have HC154_3 := Aside0.mk hl154_3
                clear hi154_3 hl154_3
                have HR154_4 := Aside0.mk hi154_4
                have HC154_4 := Aside0.mk hl154_4
                clear hi154_4 hl154_4
                replace p154 := eq_true p154
                replace q154 := eq_true q154
                have p155 : 0 ≤ (x11_1 : Int) := of_decide_eq_true (by first | (with_reducible assumption) | assumption)
                have q155 : x11_1 < (l0.length : Int) := of_decide_eq_true (by first | (with_reducible assumption) | assumption)
                obtain ⟨ad155, A155_1, c155_1, A155_3, c155_3, A155_4, c155_4, e155, hx155_0, hx155_1, hx155_2, hx155_3, hx155_4, hl155_1, hi155_1, hl155_3, hi155_3, hl155_4, hi155_4⟩ := at_T92 HR0.out x11_1 p155 q155
                obtain rfl : ad154 = ad155 := (by injection e155)
                have HR155_1 := Aside0.mk hi155_1
                have HC155_1 := Aside0.mk hl155_1
                clear hi155_1 hl155_1
                have HR155_3 := Aside0.mk hi155_3
                have HC155_3 := Aside0.mk hl155_3
                clear hi155_3 hl155_3
                have HR155_4 := Aside0.mk hi155_4
                have HC155_4 := Aside0.mk hl155_4
                clear hi155_4 hl155_4
                replace p155 := eq_true p155
                replace q155 := eq_true q155
                have ea_ := Option.some.inj (hx154_1.symm.trans hx155_1)
                injection ea_ with ea_ en_ ec_
                subst ea_
                subst ec_
                clear en_
                have ea_ := Option.some.inj (hx154_3.symm.trans hx155_3)
                injection ea_ with ea_ en_ ec_
                subst ea_
                subst ec_
                clear en_
                have ea_ := Option.some.inj (hx154_4.symm.trans hx155_4)
                injection ea_ with ea_ en_ ec_
                subst ea_
                subst ec_
                clear en_
                go_wp2
                go_roundg k1
                case measure => have := HK1.out; omega
                case rel => exact ⟨(wrap64 (x11_1 + 1)), (by first | rfl | (simp; done) | (simp [*]; done)), H', ⟨by have := HK1.out; omega⟩, by repeat (first | exact Drawn0.refl _ | apply Drawn0.step)⟩
            · rw [if_neg c9] at H
              have c9b0 : (((rd_T92 l0 x11_1).f2) == a2) = false := beq_eq_false_iff_ne.mpr c9
              have c9b1 : (((rd_T92 l0 x11_1).f2) != a2) = true := bne_iff_ne.mpr c9
              have H' := Aside0.mk H
              clear H
              have p154 : 0 ≤ (x11_1 : Int) := of_decide_eq_true (by first | (with_reducible assumption) | assumption)
              have q154 : x11_1 < (l0.length : Int) := of_decide_eq_true (by first | (with_reducible assumption) | assumption)
              obtain ⟨ad154, A154_1, c154_1, A154_3, c154_3, A154_4, c154_4, e154, hx154_0, hx154_1, hx154_2, hx154_3, hx154_4, hl154_1, hi154_1, hl154_3, hi154_3, hl154_4, hi154_4⟩ := at_T92 HR0.out x11_1 p154 q154
              cases e154
              have HR154_1 := Aside0.mk hi154_1
              have HC154_1 := Aside0.mk hl154_1
              clear hi154_1 hl154_1
              have HR154_3 := Aside0.mk hi154_3
              have HC154_3 := Aside0.mk hl154_3
              clear hi154_3 hl154_3
              have HR154_4 := Aside0.mk hi154_4
              have HC154_4 := Aside0.mk hl154_4
              clear hi154_4 hl154_4
              replace p154 := eq_true p154
              replace q154 := eq_true q154
              go_wp2
              go_roundg k1
              case measure => have := HK1.out; omega
              case rel => exact ⟨(wrap64 (x11_1 + 1)), (by first | rfl | (simp; done) | (simp [*]; done)), H', ⟨by have := HK1.out; omega⟩, by repeat (first | exact Drawn0.refl _ | apply Drawn0.step)⟩
          · rw [if_neg c8] at H
            exact absurd H (by simp)
        · rw [if_neg c7] at H
          exact absurd H (by simp)
      · rw [if_neg c6] at H
        have c6b0 : decide (x11_1 < a1) = false := decide_eq_false c6
        clear c6
        obtain rfl := Option.some.inj H
        go_wp2
        go_ret
        exact ⟨by first | rfl | (simp; done) | (simp [*]; done), by repeat (first | exact Drawn0.refl _ | apply Drawn0.step)⟩
end Go.Proofs.Ytpalbpakeokimaa.PK
