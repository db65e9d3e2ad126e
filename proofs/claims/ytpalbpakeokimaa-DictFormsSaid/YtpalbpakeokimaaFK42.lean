/- tinder: a part of the proof, joined and pruned by wip/tools/prune.py out of: K42 -/
import Derived.Test.YtpalbpakeokimaaFK0
namespace Go.Proofs.Ytpalbpakeokimaa.PK
open Go.RowKit Go.Proofs.YtpalbpakeokimaaW.PrintWords Go.Proofs.YtpalbpakeokimaaW.PrintLast Go.Proofs.YtpalbpakeokimaaW.PrintMore
attribute [local go_sem] max2_int min2_int max_two min_two max_three min_three max_four min_four
set_option linter.unusedVariables false
set_option linter.unusedSimpArgs false
mutual
def tinderref09_Sound.l0 : Nat → List (S57) → Int → Int → Option (Bool)
  | 0, _, _, _ => none
  | k + 1, x0, x1, x5 => if x5 < (x0.length : Int) then (if 0 ≤ x5 then (if ((rd_T57 x0 x5).f0) = 1 then (tinderref09_Sound.l0 k x0 x1 (wrap64 (x5 + 1))) else (if ((rd_T57 x0 x5).f0) = 2 then (tinderref09_Sound.j1 k x0 x1 x5 (wrap64 ((rd_T57 x0 x5).f1)) ((rd_T57 x0 x5).f0) (((rd_T57 x0 x5).f0) == 2)) else (tinderref09_Sound.j1 k x0 x1 x5 (wrap64 ((rd_T57 x0 x5).f1)) ((rd_T57 x0 x5).f0) (((rd_T57 x0 x5).f0) == 13)))) else (none)) else (some true)
def tinderref09_Sound.j1 : Nat → List (S57) → Int → Int → Int → Int → Bool → Option (Bool)
  | 0, _, _, _, _, _, _ => none
  | k + 1, x0, x1, x5, x6, x26, x29 => if x29 = true then (if x6 ≥ x1 then (some false) else (tinderref09_Sound.l0 k x0 x1 (wrap64 (x5 + 1)))) else (if x26 = 11 then (tinderref09_Sound.j2 k x0 x1 x5 x6 x26 (x26 == 11)) else (tinderref09_Sound.j2 k x0 x1 x5 x6 x26 (x26 == 12)))
def tinderref09_Sound.j2 : Nat → List (S57) → Int → Int → Int → Int → Bool → Option (Bool)
  | 0, _, _, _, _, _, _ => none
  | k + 1, x0, x1, x5, x6, x26, x35 => if x35 = true then (if x6 = 0 then (tinderref09_Sound.l0 k x0 x1 (wrap64 (x5 + 1))) else (some false)) else (if x26 = 3 then (tinderref09_Sound.j3 k x0 x1 x5 x6 (x26 == 3)) else (if x26 = 4 then (tinderref09_Sound.j3 k x0 x1 x5 x6 (x26 == 4)) else (if x26 = 5 then (tinderref09_Sound.j3 k x0 x1 x5 x6 (x26 == 5)) else (if x26 = 6 then (tinderref09_Sound.j3 k x0 x1 x5 x6 (x26 == 6)) else (if x26 = 7 then (tinderref09_Sound.j3 k x0 x1 x5 x6 (x26 == 7)) else (if x26 = 8 then (tinderref09_Sound.j3 k x0 x1 x5 x6 (x26 == 8)) else (if x26 = 9 then (tinderref09_Sound.j3 k x0 x1 x5 x6 (x26 == 9)) else (tinderref09_Sound.j3 k x0 x1 x5 x6 (x26 == 10)))))))))
def tinderref09_Sound.j3 : Nat → List (S57) → Int → Int → Int → Bool → Option (Bool)
  | 0, _, _, _, _, _ => none
  | k + 1, x0, x1, x5, x6, x40 => if x40 = true then (if x6 > (x0.length : Int) then (some false) else (tinderref09_Sound.l0 k x0 x1 (wrap64 (x5 + 1)))) else (some false)
end
def tinderref09_Sound.f (k : Nat) (l0 : List (S57)) (a1 : Int) : Option (Bool) := if (l0.length : Int) > 256 then (some false) else (tinderref09_Sound.l0 k l0 a1 0)
theorem tinderref09_Sound.mono_l : ∀ k, (∀ y0 y1 y2, LeO (tinderref09_Sound.l0 k y0 y1 y2) (tinderref09_Sound.l0 (k + 1) y0 y1 y2)) ∧ (∀ y0 y1 y2 y3 y4 y5, LeO (tinderref09_Sound.j1 k y0 y1 y2 y3 y4 y5) (tinderref09_Sound.j1 (k + 1) y0 y1 y2 y3 y4 y5)) ∧ (∀ y0 y1 y2 y3 y4 y5, LeO (tinderref09_Sound.j2 k y0 y1 y2 y3 y4 y5) (tinderref09_Sound.j2 (k + 1) y0 y1 y2 y3 y4 y5)) ∧ (∀ y0 y1 y2 y3 y4, LeO (tinderref09_Sound.j3 k y0 y1 y2 y3 y4) (tinderref09_Sound.j3 (k + 1) y0 y1 y2 y3 y4))
  | 0 => ⟨fun _ _ _ r h => by simp [tinderref09_Sound.l0] at h, fun _ _ _ _ _ _ r h => by simp [tinderref09_Sound.j1] at h, fun _ _ _ _ _ _ r h => by simp [tinderref09_Sound.j2] at h, fun _ _ _ _ _ r h => by simp [tinderref09_Sound.j3] at h⟩
  | k + 1 => by
    obtain ⟨ih0, ih1, ih2, ih3⟩ := tinderref09_Sound.mono_l k
    refine ⟨?_, ?_, ?_, ?_⟩
    · intro y0 y1 y2
      unfold tinderref09_Sound.l0
      repeat' first
      | (with_reducible exact ih0 _ _ _)
      | (with_reducible exact ih1 _ _ _ _ _ _)
      | (with_reducible exact ih2 _ _ _ _ _ _)
      | (with_reducible exact ih3 _ _ _ _ _)
      | (with_reducible exact LeO.refl _)
      | (with_reducible exact LeO.none _)
      | (with_reducible refine LeO.ite ?_ ?_)
      | (with_reducible refine LeO.bind ?_ (fun _ => ?_))
      | exact ih0 _ _ _
      | exact ih1 _ _ _ _ _ _
      | exact ih2 _ _ _ _ _ _
      | exact ih3 _ _ _ _ _
      | exact LeO.none _
      | refine LeO.ite ?_ ?_
      | refine LeO.bind ?_ (fun _ => ?_)
    · intro y0 y1 y2 y3 y4 y5
      unfold tinderref09_Sound.j1
      repeat' first
      | (with_reducible exact ih0 _ _ _)
      | (with_reducible exact ih1 _ _ _ _ _ _)
      | (with_reducible exact ih2 _ _ _ _ _ _)
      | (with_reducible exact ih3 _ _ _ _ _)
      | (with_reducible exact LeO.refl _)
      | (with_reducible exact LeO.none _)
      | (with_reducible refine LeO.ite ?_ ?_)
      | (with_reducible refine LeO.bind ?_ (fun _ => ?_))
      | exact ih0 _ _ _
      | exact ih1 _ _ _ _ _ _
      | exact ih2 _ _ _ _ _ _
      | exact ih3 _ _ _ _ _
      | exact LeO.none _
      | refine LeO.ite ?_ ?_
      | refine LeO.bind ?_ (fun _ => ?_)
    · intro y0 y1 y2 y3 y4 y5
      unfold tinderref09_Sound.j2
      repeat' first
      | (with_reducible exact ih0 _ _ _)
      | (with_reducible exact ih1 _ _ _ _ _ _)
      | (with_reducible exact ih2 _ _ _ _ _ _)
      | (with_reducible exact ih3 _ _ _ _ _)
      | (with_reducible exact LeO.refl _)
      | (with_reducible exact LeO.none _)
      | (with_reducible refine LeO.ite ?_ ?_)
      | (with_reducible refine LeO.bind ?_ (fun _ => ?_))
      | exact ih0 _ _ _
      | exact ih1 _ _ _ _ _ _
      | exact ih2 _ _ _ _ _ _
      | exact ih3 _ _ _ _ _
      | exact LeO.none _
      | refine LeO.ite ?_ ?_
      | refine LeO.bind ?_ (fun _ => ?_)
    · intro y0 y1 y2 y3 y4
      unfold tinderref09_Sound.j3
      repeat' first
      | (with_reducible exact ih0 _ _ _)
      | (with_reducible exact ih1 _ _ _ _ _ _)
      | (with_reducible exact ih2 _ _ _ _ _ _)
      | (with_reducible exact ih3 _ _ _ _ _)
      | (with_reducible exact LeO.refl _)
      | (with_reducible exact LeO.none _)
      | (with_reducible refine LeO.ite ?_ ?_)
      | (with_reducible refine LeO.bind ?_ (fun _ => ?_))
      | exact ih0 _ _ _
      | exact ih1 _ _ _ _ _ _
      | exact ih2 _ _ _ _ _ _
      | exact ih3 _ _ _ _ _
      | exact LeO.none _
      | refine LeO.ite ?_ ?_
      | refine LeO.bind ?_ (fun _ => ?_)
theorem tinderref09_Sound.mono : ∀ a0 a1 k, LeO (tinderref09_Sound.f k a0 a1) (tinderref09_Sound.f (k + 1) a0 a1) := by
  intro a0 a1 k
  obtain ⟨ih0, ih1, ih2, ih3⟩ := tinderref09_Sound.mono_l k
  unfold tinderref09_Sound.f
  repeat' first
      | (with_reducible exact ih0 _ _ _)
      | (with_reducible exact ih1 _ _ _ _ _ _)
      | (with_reducible exact ih2 _ _ _ _ _ _)
      | (with_reducible exact ih3 _ _ _ _ _)
      | (with_reducible exact LeO.refl _)
      | (with_reducible exact LeO.none _)
      | (with_reducible refine LeO.ite ?_ ?_)
      | (with_reducible refine LeO.bind ?_ (fun _ => ?_))
      | exact ih0 _ _ _
      | exact ih1 _ _ _ _ _ _
      | exact ih2 _ _ _ _ _ _
      | exact ih3 _ _ _ _ _
      | exact LeO.none _
      | refine LeO.ite ?_ ?_
      | refine LeO.bind ?_ (fun _ => ?_)
set_option maxHeartbeats 8000000 in
set_option maxRecDepth 100000 in
theorem tinderref09_Sound.calls (k : Nat) (A0 : Option Addr) (c0 : Nat) (l0 : List (S57)) (a1 : Int) (r : Bool) (w : World) (hr0 : Kd.C k57 w A0 l0.length l0) (hc0 : l0.length ≤ c0) (h : tinderref09_Sound.f k l0 a1 = some r) :
    Calls Try.prog 11 #[.slice A0 l0.length c0, .int .i64 a1] w fun e w' => e = .returned (.bool r) ∧ Drawn0 w w' := by
  have HR0 := Aside0.mk hr0
  have HC0 := Aside0.mk hc0
  clear hr0 hc0
  have H : (if (l0.length : Int) > 256 then (some false) else (tinderref09_Sound.l0 k l0 a1 0)) = some r := h
  clear h
  by_cases c3 : (l0.length : Int) > 256
  · rw [if_pos c3] at H
    have c3b0 : decide (256 < (l0.length : Int)) = true := decide_eq_true c3
    have c3b1 : decide (256 < l0.length) = true := decide_eq_true (by omega)
    clear c3
    obtain rfl := Option.some.inj H
    go_enter Try.func11, Try.ntmps11
    go_wp2
    go_ret
    exact ⟨by first | rfl | (simp; done) | (simp [*]; done), by repeat (first | exact Drawn0.refl _ | apply Drawn0.step)⟩
  · rw [if_neg c3] at H
    have c3b0 : decide (256 < (l0.length : Int)) = false := decide_eq_false c3
    have c3b1 : decide (256 < l0.length) = false := decide_eq_false (by omega)
    clear c3
    have H' := Aside0.mk H
    clear H
    go_enter Try.func11, Try.ntmps11
    go_wp2
    go_loopg [5] k (fun kq v5 w' => ∃ (x5_1 : Int), v5 = .int .i64 x5_1 ∧ Aside0 (tinderref09_Sound.l0 kq l0 a1 x5_1 = some r) ∧ Aside0 (kq ≤ k) ∧ Drawn0 w w')
    case atStart => exact ⟨(0), (by first | rfl | (simp; done) | (simp [*]; done)), H', ⟨Nat.le_refl _⟩, by repeat (first | exact Drawn0.refl _ | apply Drawn0.step)⟩
    case round =>
      clear H'
      try clear c1
      try clear p2
      try clear c3
      try clear c3b0
      try clear c3b1
      obtain ⟨x5_1, rfl, HA, HK1, ⟨m1, rfl⟩⟩ := hrel
      cases gk with
      | zero => exact absurd HA.out (by simp [tinderref09_Sound.l0])
      | succ k1 =>
        have H := HA.out
        clear HA
        simp only [tinderref09_Sound.l0] at H
        by_cases c4 : x5_1 < (l0.length : Int)
        · rw [if_pos c4] at H
          have c4b0 : decide (x5_1 < (l0.length : Int)) = true := decide_eq_true c4
          clear c4
          by_cases c5 : 0 ≤ x5_1
          · rw [if_pos c5] at H
            have c5b0 : decide (0 ≤ x5_1) = true := decide_eq_true c5
            clear c5
            by_cases c6 : ((rd_T57 l0 x5_1).f0) = 1
            · rw [if_pos c6] at H
              have c6b0 : (((rd_T57 l0 x5_1).f0) == 1) = true := beq_iff_eq.mpr c6
              have c6b1 : (((rd_T57 l0 x5_1).f0) != 1) = false := bne_eq_false_iff_eq.mpr c6
              clear c6
              have H' := Aside0.mk H
              clear H
              have p119 : 0 ≤ (x5_1 : Int) := of_decide_eq_true (by first | (with_reducible assumption) | assumption)
              have q119 : x5_1 < (l0.length : Int) := of_decide_eq_true (by first | (with_reducible assumption) | assumption)
              obtain ⟨ad119, e119, hx119_0, hx119_1⟩ := at_T57 HR0.out x5_1 p119 q119
              cases e119
              replace p119 := eq_true p119
              replace q119 := eq_true q119
              have p120 : 0 ≤ (x5_1 : Int) := of_decide_eq_true (by first | (with_reducible assumption) | assumption)
              have q120 : x5_1 < (l0.length : Int) := of_decide_eq_true (by first | (with_reducible assumption) | assumption)
              obtain ⟨ad120, e120, hx120_0, hx120_1⟩ := at_T57 HR0.out x5_1 p120 q120
              obtain rfl : ad119 = ad120 := (by injection e120)
              replace p120 := eq_true p120
              replace q120 := eq_true q120
              go_wp2
              go_roundg k1
              case measure => have := HK1.out; omega
              case rel => exact ⟨(wrap64 (x5_1 + 1)), (by first | rfl | (simp; done) | (simp [*]; done)), H', ⟨by have := HK1.out; omega⟩, by repeat (first | exact Drawn0.refl _ | apply Drawn0.step)⟩
            · rw [if_neg c6] at H
              have c6b0 : (((rd_T57 l0 x5_1).f0) == 1) = false := beq_eq_false_iff_ne.mpr c6
              have c6b1 : (((rd_T57 l0 x5_1).f0) != 1) = true := bne_iff_ne.mpr c6
              have HC7 := Aside0.mk H
              clear H
              have p119 : 0 ≤ (x5_1 : Int) := of_decide_eq_true (by first | (with_reducible assumption) | assumption)
              have q119 : x5_1 < (l0.length : Int) := of_decide_eq_true (by first | (with_reducible assumption) | assumption)
              obtain ⟨ad119, e119, hx119_0, hx119_1⟩ := at_T57 HR0.out x5_1 p119 q119
              cases e119
              replace p119 := eq_true p119
              replace q119 := eq_true q119
              have p120 : 0 ≤ (x5_1 : Int) := of_decide_eq_true (by first | (with_reducible assumption) | assumption)
              have q120 : x5_1 < (l0.length : Int) := of_decide_eq_true (by first | (with_reducible assumption) | assumption)
              obtain ⟨ad120, e120, hx120_0, hx120_1⟩ := at_T57 HR0.out x5_1 p120 q120
              obtain rfl : ad119 = ad120 := (by injection e120)
              replace p120 := eq_true p120
              replace q120 := eq_true q120
              go_upto_if 29 with (fail)
              go_cut [29] (fun v29 wc => ∃ (kq : Nat) (x29_6 : Bool), v29 = .bool x29_6 ∧ Aside0 (tinderref09_Sound.j1 kq l0 a1 x5_1 (wrap64 ((rd_T57 l0 x5_1).f1)) ((rd_T57 l0 x5_1).f0) x29_6 = some r) ∧ Aside0 (kq ≤ k1) ∧ Drawn0 w wc)
              case first =>
                have H := HC7.out
                clear HC7
                by_cases c8 : ((rd_T57 l0 x5_1).f0) = 2
                · rw [if_pos c8] at H
                  have c8b0 : (((rd_T57 l0 x5_1).f0) == 2) = true := beq_iff_eq.mpr c8
                  have c8b1 : (((rd_T57 l0 x5_1).f0) != 2) = false := bne_eq_false_iff_eq.mpr c8
                  clear c8
                  (first | rw [c8b0] | (simp only [i64_w, i32_w]; rw [c8b0]) | skip)
                  have H' := Aside0.mk H
                  clear H
                  go_wp2
                  go_meet
                  case rel => exact ⟨_, ((((rd_T57 l0 x5_1).f0) == 2)), (by first | rfl | (simp; done) | (simp [*]; done)), H', ⟨by have := HK1.out; first | omega | exact Nat.le_refl _⟩, by repeat (first | exact Drawn0.refl _ | apply Drawn0.step)⟩
                · rw [if_neg c8] at H
                  have c8b0 : (((rd_T57 l0 x5_1).f0) == 2) = false := beq_eq_false_iff_ne.mpr c8
                  have c8b1 : (((rd_T57 l0 x5_1).f0) != 2) = true := bne_iff_ne.mpr c8
                  (first | rw [c8b0] | (simp only [i64_w, i32_w]; rw [c8b0]) | skip)
                  have H' := Aside0.mk H
                  clear H
                  go_wp2
                  go_meet
                  case rel => exact ⟨_, ((((rd_T57 l0 x5_1).f0) == 13)), (by first | rfl | (simp; done) | (simp [*]; done)), H', ⟨by have := HK1.out; first | omega | exact Nat.le_refl _⟩, by repeat (first | exact Drawn0.refl _ | apply Drawn0.step)⟩
              case rest =>
                clear HC7
                try clear c1
                try clear p1
                try clear q1
                try clear hx1
                try clear p2
                try clear c3
                try clear c3b0
                try clear c3b1
                try clear c4
                try clear c4b0
                try clear c5
                try clear c5b0
                try clear c6
                try clear c6b0
                try clear c6b1
                try clear p6
                try clear c8
                try clear c8b0
                try clear c8b1
                try clear hx119_0
                try clear hx119_1
                try clear hx120_0
                try clear hx120_1
                try clear p119
                try clear p120
                try clear p2
                try clear q119
                try clear q120
                obtain ⟨kq, x29_6, rfl, HA, HJ6, ⟨mc6, rfl⟩⟩ := hcut
                cases kq with
                | zero => exact absurd HA.out (by simp [tinderref09_Sound.j1])
                | succ kj6 =>
                  have H := HA.out
                  clear HA
                  simp only [tinderref09_Sound.j1] at H
                  by_cases c9 : x29_6 = true
                  · subst c9
                    have H1 : (if (wrap64 ((rd_T57 l0 x5_1).f1)) ≥ a1 then (some false) else (tinderref09_Sound.l0 kj6 l0 a1 (wrap64 (x5_1 + 1)))) = some r := by rw [if_pos rfl] at H; exact H
                    clear H
                    have H := H1
                    clear H1
                    by_cases c10 : (wrap64 ((rd_T57 l0 x5_1).f1)) ≥ a1
                    · rw [if_pos c10] at H
                      have c10b0 : decide (a1 ≤ (wrap64 ((rd_T57 l0 x5_1).f1))) = true := decide_eq_true c10
                      clear c10
                      obtain rfl := Option.some.inj H
                      go_wp2
                      go_ret
                      exact ⟨by first | rfl | (simp; done) | (simp [*]; done), by repeat (first | exact Drawn0.refl _ | apply Drawn0.step)⟩
                    · rw [if_neg c10] at H
                      have c10b0 : decide (a1 ≤ (wrap64 ((rd_T57 l0 x5_1).f1))) = false := decide_eq_false c10
                      clear c10
                      have H' := Aside0.mk H
                      clear H
                      go_wp2
                      go_roundg kj6
                      case measure => have := HK1.out; have := HJ6.out; omega
                      case rel => exact ⟨(wrap64 (x5_1 + 1)), (by first | rfl | (simp; done) | (simp [*]; done)), H', ⟨by have := HK1.out; have := HJ6.out; omega⟩, by repeat (first | exact Drawn0.refl _ | apply Drawn0.step)⟩
                  · replace c9 := Bool.eq_false_iff.mpr c9
                    subst c9
                    have H1 : (if ((rd_T57 l0 x5_1).f0) = 11 then (tinderref09_Sound.j2 kj6 l0 a1 x5_1 (wrap64 ((rd_T57 l0 x5_1).f1)) ((rd_T57 l0 x5_1).f0) (((rd_T57 l0 x5_1).f0) == 11)) else (tinderref09_Sound.j2 kj6 l0 a1 x5_1 (wrap64 ((rd_T57 l0 x5_1).f1)) ((rd_T57 l0 x5_1).f0) (((rd_T57 l0 x5_1).f0) == 12))) = some r := by rw [if_neg (show ¬ (false = true) by decide)] at H; exact H
                    clear H
                    have H := H1
                    clear H1
                    have HC11 := Aside0.mk H
                    clear H
                    go_upto_if 35 with (fail)
                    go_cut [35] (fun v35 wc => ∃ (kq : Nat) (x35_10 : Bool), v35 = .bool x35_10 ∧ Aside0 (tinderref09_Sound.j2 kq l0 a1 x5_1 (wrap64 ((rd_T57 l0 x5_1).f1)) ((rd_T57 l0 x5_1).f0) x35_10 = some r) ∧ Aside0 (kq ≤ kj6) ∧ Drawn0 w wc)
                    case first =>
                      have H := HC11.out
                      clear HC11
                      by_cases c12 : ((rd_T57 l0 x5_1).f0) = 11
                      · rw [if_pos c12] at H
                        have c12b0 : (((rd_T57 l0 x5_1).f0) == 11) = true := beq_iff_eq.mpr c12
                        have c12b1 : (((rd_T57 l0 x5_1).f0) != 11) = false := bne_eq_false_iff_eq.mpr c12
                        clear c12
                        (first | rw [c12b0] | (simp only [i64_w, i32_w]; rw [c12b0]) | skip)
                        have H' := Aside0.mk H
                        clear H
                        go_wp2
                        go_meet
                        case rel => exact ⟨_, ((((rd_T57 l0 x5_1).f0) == 11)), (by first | rfl | (simp; done) | (simp [*]; done)), H', ⟨by have := HK1.out; have := HJ6.out; first | omega | exact Nat.le_refl _⟩, by repeat (first | exact Drawn0.refl _ | apply Drawn0.step)⟩
                      · rw [if_neg c12] at H
                        have c12b0 : (((rd_T57 l0 x5_1).f0) == 11) = false := beq_eq_false_iff_ne.mpr c12
                        have c12b1 : (((rd_T57 l0 x5_1).f0) != 11) = true := bne_iff_ne.mpr c12
                        (first | rw [c12b0] | (simp only [i64_w, i32_w]; rw [c12b0]) | skip)
                        have H' := Aside0.mk H
                        clear H
                        go_wp2
                        go_meet
                        case rel => exact ⟨_, ((((rd_T57 l0 x5_1).f0) == 12)), (by first | rfl | (simp; done) | (simp [*]; done)), H', ⟨by have := HK1.out; have := HJ6.out; first | omega | exact Nat.le_refl _⟩, by repeat (first | exact Drawn0.refl _ | apply Drawn0.step)⟩
                    case rest =>
                      clear HC11
                      try clear c1
                      try clear p1
                      try clear q1
                      try clear hx1
                      try clear p2
                      try clear c3
                      try clear c3b0
                      try clear c3b1
                      try clear c4
                      try clear c4b0
                      try clear c5
                      try clear c5b0
                      try clear c6
                      try clear c6b0
                      try clear c6b1
                      try clear p6
                      try clear c8
                      try clear c8b0
                      try clear c8b1
                      try clear c9
                      try clear c10
                      try clear c10b0
                      try clear c11
                      try clear p11
                      try clear q11
                      try clear hx11
                      try clear c12
                      try clear c12b0
                      try clear c12b1
                      try clear p12
                      try clear q12
                      try clear hx12
                      try clear hx119_0
                      try clear hx119_1
                      try clear hx120_0
                      try clear hx120_1
                      try clear p1
                      try clear p119
                      try clear p120
                      try clear p2
                      try clear p6
                      try clear q1
                      try clear q119
                      try clear q120
                      obtain ⟨kq, x35_10, rfl, HA, HJ10, ⟨mc10, rfl⟩⟩ := hcut
                      cases kq with
                      | zero => exact absurd HA.out (by simp [tinderref09_Sound.j2])
                      | succ kj10 =>
                        have H := HA.out
                        clear HA
                        simp only [tinderref09_Sound.j2] at H
                        by_cases c13 : x35_10 = true
                        · subst c13
                          have H1 : (if (wrap64 ((rd_T57 l0 x5_1).f1)) = 0 then (tinderref09_Sound.l0 kj10 l0 a1 (wrap64 (x5_1 + 1))) else (some false)) = some r := by rw [if_pos rfl] at H; exact H
                          clear H
                          have H := H1
                          clear H1
                          by_cases c14 : (wrap64 ((rd_T57 l0 x5_1).f1)) = 0
                          · rw [if_pos c14] at H
                            have c14b0 : ((wrap64 ((rd_T57 l0 x5_1).f1)) == 0) = true := beq_iff_eq.mpr c14
                            have c14b1 : ((wrap64 ((rd_T57 l0 x5_1).f1)) != 0) = false := bne_eq_false_iff_eq.mpr c14
                            clear c14
                            have H' := Aside0.mk H
                            clear H
                            go_wp2
                            go_roundg kj10
                            case measure => have := HK1.out; have := HJ6.out; have := HJ10.out; omega
                            case rel => exact ⟨(wrap64 (x5_1 + 1)), (by first | rfl | (simp; done) | (simp [*]; done)), H', ⟨by have := HK1.out; have := HJ6.out; have := HJ10.out; omega⟩, by repeat (first | exact Drawn0.refl _ | apply Drawn0.step)⟩
                          · rw [if_neg c14] at H
                            have c14b0 : ((wrap64 ((rd_T57 l0 x5_1).f1)) == 0) = false := beq_eq_false_iff_ne.mpr c14
                            have c14b1 : ((wrap64 ((rd_T57 l0 x5_1).f1)) != 0) = true := bne_iff_ne.mpr c14
                            obtain rfl := Option.some.inj H
                            go_wp2
                            go_ret
                            exact ⟨by first | rfl | (simp; done) | (simp [*]; done), by repeat (first | exact Drawn0.refl _ | apply Drawn0.step)⟩
                        · replace c13 := Bool.eq_false_iff.mpr c13
                          subst c13
                          have H1 : (if ((rd_T57 l0 x5_1).f0) = 3 then (tinderref09_Sound.j3 kj10 l0 a1 x5_1 (wrap64 ((rd_T57 l0 x5_1).f1)) (((rd_T57 l0 x5_1).f0) == 3)) else (if ((rd_T57 l0 x5_1).f0) = 4 then (tinderref09_Sound.j3 kj10 l0 a1 x5_1 (wrap64 ((rd_T57 l0 x5_1).f1)) (((rd_T57 l0 x5_1).f0) == 4)) else (if ((rd_T57 l0 x5_1).f0) = 5 then (tinderref09_Sound.j3 kj10 l0 a1 x5_1 (wrap64 ((rd_T57 l0 x5_1).f1)) (((rd_T57 l0 x5_1).f0) == 5)) else (if ((rd_T57 l0 x5_1).f0) = 6 then (tinderref09_Sound.j3 kj10 l0 a1 x5_1 (wrap64 ((rd_T57 l0 x5_1).f1)) (((rd_T57 l0 x5_1).f0) == 6)) else (if ((rd_T57 l0 x5_1).f0) = 7 then (tinderref09_Sound.j3 kj10 l0 a1 x5_1 (wrap64 ((rd_T57 l0 x5_1).f1)) (((rd_T57 l0 x5_1).f0) == 7)) else (if ((rd_T57 l0 x5_1).f0) = 8 then (tinderref09_Sound.j3 kj10 l0 a1 x5_1 (wrap64 ((rd_T57 l0 x5_1).f1)) (((rd_T57 l0 x5_1).f0) == 8)) else (if ((rd_T57 l0 x5_1).f0) = 9 then (tinderref09_Sound.j3 kj10 l0 a1 x5_1 (wrap64 ((rd_T57 l0 x5_1).f1)) (((rd_T57 l0 x5_1).f0) == 9)) else (tinderref09_Sound.j3 kj10 l0 a1 x5_1 (wrap64 ((rd_T57 l0 x5_1).f1)) (((rd_T57 l0 x5_1).f0) == 10))))))))) = some r := by rw [if_neg (show ¬ (false = true) by decide)] at H; exact H
                          clear H
                          have H := H1
                          clear H1
                          have HC15 := Aside0.mk H
                          clear H
                          go_upto_if 40 with (fail)
                          go_cut [40] (fun v40 wc => ∃ (kq : Nat) (x40_14 : Bool), v40 = .bool x40_14 ∧ Aside0 (tinderref09_Sound.j3 kq l0 a1 x5_1 (wrap64 ((rd_T57 l0 x5_1).f1)) x40_14 = some r) ∧ Aside0 (kq ≤ kj10) ∧ Drawn0 w wc)
                          case first =>
                            have H := HC15.out
                            clear HC15
                            by_cases c16 : ((rd_T57 l0 x5_1).f0) = 3
                            · rw [if_pos c16] at H
                              have c16b0 : (((rd_T57 l0 x5_1).f0) == 3) = true := beq_iff_eq.mpr c16
                              have c16b1 : (((rd_T57 l0 x5_1).f0) != 3) = false := bne_eq_false_iff_eq.mpr c16
                              clear c16
                              (first | rw [c16b0] | (simp only [i64_w, i32_w]; rw [c16b0]) | skip)
                              have H' := Aside0.mk H
                              clear H
                              go_wp2
                              go_meet
                              case rel => exact ⟨_, ((((rd_T57 l0 x5_1).f0) == 3)), (by first | rfl | (simp; done) | (simp [*]; done)), H', ⟨by have := HK1.out; have := HJ6.out; have := HJ10.out; first | omega | exact Nat.le_refl _⟩, by repeat (first | exact Drawn0.refl _ | apply Drawn0.step)⟩
                            · rw [if_neg c16] at H
                              have c16b0 : (((rd_T57 l0 x5_1).f0) == 3) = false := beq_eq_false_iff_ne.mpr c16
                              have c16b1 : (((rd_T57 l0 x5_1).f0) != 3) = true := bne_iff_ne.mpr c16
                              (first | rw [c16b0] | (simp only [i64_w, i32_w]; rw [c16b0]) | skip)
                              by_cases c17 : ((rd_T57 l0 x5_1).f0) = 4
                              · rw [if_pos c17] at H
                                have c17b0 : (((rd_T57 l0 x5_1).f0) == 4) = true := beq_iff_eq.mpr c17
                                have c17b1 : (((rd_T57 l0 x5_1).f0) != 4) = false := bne_eq_false_iff_eq.mpr c17
                                clear c17
                                have H' := Aside0.mk H
                                clear H
                                go_wp2
                                go_meet
                                case rel => exact ⟨_, ((((rd_T57 l0 x5_1).f0) == 4)), (by first | rfl | (simp; done) | (simp [*]; done)), H', ⟨by have := HK1.out; have := HJ6.out; have := HJ10.out; first | omega | exact Nat.le_refl _⟩, by repeat (first | exact Drawn0.refl _ | apply Drawn0.step)⟩
                              · rw [if_neg c17] at H
                                have c17b0 : (((rd_T57 l0 x5_1).f0) == 4) = false := beq_eq_false_iff_ne.mpr c17
                                have c17b1 : (((rd_T57 l0 x5_1).f0) != 4) = true := bne_iff_ne.mpr c17
                                by_cases c18 : ((rd_T57 l0 x5_1).f0) = 5
                                · rw [if_pos c18] at H
                                  have c18b0 : (((rd_T57 l0 x5_1).f0) == 5) = true := beq_iff_eq.mpr c18
                                  have c18b1 : (((rd_T57 l0 x5_1).f0) != 5) = false := bne_eq_false_iff_eq.mpr c18
                                  clear c18
                                  have H' := Aside0.mk H
                                  clear H
                                  go_wp2
                                  go_meet
                                  case rel => exact ⟨_, ((((rd_T57 l0 x5_1).f0) == 5)), (by first | rfl | (simp; done) | (simp [*]; done)), H', ⟨by have := HK1.out; have := HJ6.out; have := HJ10.out; first | omega | exact Nat.le_refl _⟩, by repeat (first | exact Drawn0.refl _ | apply Drawn0.step)⟩
                                · rw [if_neg c18] at H
                                  have c18b0 : (((rd_T57 l0 x5_1).f0) == 5) = false := beq_eq_false_iff_ne.mpr c18
                                  have c18b1 : (((rd_T57 l0 x5_1).f0) != 5) = true := bne_iff_ne.mpr c18
                                  by_cases c19 : ((rd_T57 l0 x5_1).f0) = 6
                                  · rw [if_pos c19] at H
                                    have c19b0 : (((rd_T57 l0 x5_1).f0) == 6) = true := beq_iff_eq.mpr c19
                                    have c19b1 : (((rd_T57 l0 x5_1).f0) != 6) = false := bne_eq_false_iff_eq.mpr c19
                                    clear c19
                                    have H' := Aside0.mk H
                                    clear H
                                    go_wp2
                                    go_meet
                                    case rel => exact ⟨_, ((((rd_T57 l0 x5_1).f0) == 6)), (by first | rfl | (simp; done) | (simp [*]; done)), H', ⟨by have := HK1.out; have := HJ6.out; have := HJ10.out; first | omega | exact Nat.le_refl _⟩, by repeat (first | exact Drawn0.refl _ | apply Drawn0.step)⟩
                                  · rw [if_neg c19] at H
                                    have c19b0 : (((rd_T57 l0 x5_1).f0) == 6) = false := beq_eq_false_iff_ne.mpr c19
                                    have c19b1 : (((rd_T57 l0 x5_1).f0) != 6) = true := bne_iff_ne.mpr c19
                                    by_cases c20 : ((rd_T57 l0 x5_1).f0) = 7
                                    · rw [if_pos c20] at H
                                      have c20b0 : (((rd_T57 l0 x5_1).f0) == 7) = true := beq_iff_eq.mpr c20
                                      have c20b1 : (((rd_T57 l0 x5_1).f0) != 7) = false := bne_eq_false_iff_eq.mpr c20
                                      clear c20
                                      have H' := Aside0.mk H
                                      clear H
                                      go_wp2
                                      go_meet
                                      case rel => exact ⟨_, ((((rd_T57 l0 x5_1).f0) == 7)), (by first | rfl | (simp; done) | (simp [*]; done)), H', ⟨by have := HK1.out; have := HJ6.out; have := HJ10.out; first | omega | exact Nat.le_refl _⟩, by repeat (first | exact Drawn0.refl _ | apply Drawn0.step)⟩
                                    · rw [if_neg c20] at H
                                      have c20b0 : (((rd_T57 l0 x5_1).f0) == 7) = false := beq_eq_false_iff_ne.mpr c20
                                      have c20b1 : (((rd_T57 l0 x5_1).f0) != 7) = true := bne_iff_ne.mpr c20
                                      by_cases c21 : ((rd_T57 l0 x5_1).f0) = 8
                                      · rw [if_pos c21] at H
                                        have c21b0 : (((rd_T57 l0 x5_1).f0) == 8) = true := beq_iff_eq.mpr c21
                                        have c21b1 : (((rd_T57 l0 x5_1).f0) != 8) = false := bne_eq_false_iff_eq.mpr c21
                                        clear c21
                                        have H' := Aside0.mk H
                                        clear H
                                        go_wp2
                                        go_meet
                                        case rel => exact ⟨_, ((((rd_T57 l0 x5_1).f0) == 8)), (by first | rfl | (simp; done) | (simp [*]; done)), H', ⟨by have := HK1.out; have := HJ6.out; have := HJ10.out; first | omega | exact Nat.le_refl _⟩, by repeat (first | exact Drawn0.refl _ | apply Drawn0.step)⟩
                                      · rw [if_neg c21] at H
                                        have c21b0 : (((rd_T57 l0 x5_1).f0) == 8) = false := beq_eq_false_iff_ne.mpr c21
                                        have c21b1 : (((rd_T57 l0 x5_1).f0) != 8) = true := bne_iff_ne.mpr c21
                                        by_cases c22 : ((rd_T57 l0 x5_1).f0) = 9
                                        · rw [if_pos c22] at H
                                          have c22b0 : (((rd_T57 l0 x5_1).f0) == 9) = true := beq_iff_eq.mpr c22
                                          have c22b1 : (((rd_T57 l0 x5_1).f0) != 9) = false := bne_eq_false_iff_eq.mpr c22
                                          clear c22
                                          have H' := Aside0.mk H
                                          clear H
                                          go_wp2
                                          go_meet
                                          case rel => exact ⟨_, ((((rd_T57 l0 x5_1).f0) == 9)), (by first | rfl | (simp; done) | (simp [*]; done)), H', ⟨by have := HK1.out; have := HJ6.out; have := HJ10.out; first | omega | exact Nat.le_refl _⟩, by repeat (first | exact Drawn0.refl _ | apply Drawn0.step)⟩
                                        · rw [if_neg c22] at H
                                          have c22b0 : (((rd_T57 l0 x5_1).f0) == 9) = false := beq_eq_false_iff_ne.mpr c22
                                          have c22b1 : (((rd_T57 l0 x5_1).f0) != 9) = true := bne_iff_ne.mpr c22
                                          have H' := Aside0.mk H
                                          clear H
                                          go_wp2
                                          go_meet
                                          case rel => exact ⟨_, ((((rd_T57 l0 x5_1).f0) == 10)), (by first | rfl | (simp; done) | (simp [*]; done)), H', ⟨by have := HK1.out; have := HJ6.out; have := HJ10.out; first | omega | exact Nat.le_refl _⟩, by repeat (first | exact Drawn0.refl _ | apply Drawn0.step)⟩
                          case rest =>
                            clear HC15
                            try clear c1
                            try clear p1
                            try clear q1
                            try clear hx1
                            try clear c2
                            try clear p2
                            try clear c3
                            try clear c3b0
                            try clear c3b1
                            try clear c4
                            try clear c4b0
                            try clear c5
                            try clear c5b0
                            try clear c6
                            try clear c6b0
                            try clear c6b1
                            try clear p6
                            try clear c8
                            try clear c8b0
                            try clear c8b1
                            try clear c9
                            try clear c10
                            try clear c10b0
                            try clear c11
                            try clear p11
                            try clear q11
                            try clear hx11
                            try clear c12
                            try clear c12b0
                            try clear c12b1
                            try clear p12
                            try clear q12
                            try clear hx12
                            try clear c13
                            try clear c14
                            try clear c14b0
                            try clear c14b1
                            try clear c16
                            try clear c16b0
                            try clear c16b1
                            try clear c17
                            try clear c17b0
                            try clear c17b1
                            try clear c18
                            try clear c18b0
                            try clear c18b1
                            try clear c19
                            try clear c19b0
                            try clear c19b1
                            try clear c20
                            try clear c20b0
                            try clear c20b1
                            try clear c21
                            try clear c21b0
                            try clear c21b1
                            try clear c22
                            try clear c22b0
                            try clear c22b1
                            try clear hx119_0
                            try clear hx119_1
                            try clear hx120_0
                            try clear hx120_1
                            try clear p1
                            try clear p11
                            try clear p119
                            try clear p12
                            try clear p120
                            try clear p2
                            try clear p6
                            try clear q1
                            try clear q11
                            try clear q119
                            try clear q12
                            try clear q120
                            obtain ⟨kq, x40_14, rfl, HA, HJ14, ⟨mc14, rfl⟩⟩ := hcut
                            cases kq with
                            | zero => exact absurd HA.out (by simp [tinderref09_Sound.j3])
                            | succ kj14 =>
                              have H := HA.out
                              clear HA
                              simp only [tinderref09_Sound.j3] at H
                              by_cases c23 : x40_14 = true
                              · subst c23
                                have H1 : (if (wrap64 ((rd_T57 l0 x5_1).f1)) > (l0.length : Int) then (some false) else (tinderref09_Sound.l0 kj14 l0 a1 (wrap64 (x5_1 + 1)))) = some r := by rw [if_pos rfl] at H; exact H
                                clear H
                                have H := H1
                                clear H1
                                by_cases c24 : (wrap64 ((rd_T57 l0 x5_1).f1)) > (l0.length : Int)
                                · rw [if_pos c24] at H
                                  have c24b0 : decide ((l0.length : Int) < (wrap64 ((rd_T57 l0 x5_1).f1))) = true := decide_eq_true c24
                                  clear c24
                                  obtain rfl := Option.some.inj H
                                  go_wp2
                                  go_ret
                                  exact ⟨by first | rfl | (simp; done) | (simp [*]; done), by repeat (first | exact Drawn0.refl _ | apply Drawn0.step)⟩
                                · rw [if_neg c24] at H
                                  have c24b0 : decide ((l0.length : Int) < (wrap64 ((rd_T57 l0 x5_1).f1))) = false := decide_eq_false c24
                                  clear c24
                                  have H' := Aside0.mk H
                                  clear H
                                  go_wp2
                                  go_roundg kj14
                                  case measure => have := HK1.out; have := HJ6.out; have := HJ10.out; have := HJ14.out; omega
                                  case rel => exact ⟨(wrap64 (x5_1 + 1)), (by first | rfl | (simp; done) | (simp [*]; done)), H', ⟨by have := HK1.out; have := HJ6.out; have := HJ10.out; have := HJ14.out; omega⟩, by repeat (first | exact Drawn0.refl _ | apply Drawn0.step)⟩
                              · replace c23 := Bool.eq_false_iff.mpr c23
                                subst c23
                                have H1 : (some false) = some r := by rw [if_neg (show ¬ (false = true) by decide)] at H; exact H
                                clear H
                                have H := H1
                                clear H1
                                obtain rfl := Option.some.inj H
                                go_wp2
                                go_ret
                                exact ⟨by first | rfl | (simp; done) | (simp [*]; done), by repeat (first | exact Drawn0.refl _ | apply Drawn0.step)⟩
          · rw [if_neg c5] at H
            exact absurd H (by simp)
        · rw [if_neg c4] at H
          have c4b0 : decide (x5_1 < (l0.length : Int)) = false := decide_eq_false c4
          clear c4
          obtain rfl := Option.some.inj H
          go_wp2
          go_ret
          exact ⟨by first | rfl | (simp; done) | (simp [*]; done), by repeat (first | exact Drawn0.refl _ | apply Drawn0.step)⟩
end Go.Proofs.Ytpalbpakeokimaa.PK
