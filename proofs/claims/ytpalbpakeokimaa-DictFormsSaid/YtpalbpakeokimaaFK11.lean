/- tinder: a part of the proof, joined and pruned by wip/tools/prune.py out of: K11 -/
import Derived.Test.YtpalbpakeokimaaFGa
import Derived.Test.YtpalbpakeokimaaFK0
namespace Go.Proofs.Ytpalbpakeokimaa.PK
open Go.RowKit Go.Proofs.YtpalbpakeokimaaW.PrintWords Go.Proofs.YtpalbpakeokimaaW.PrintLast Go.Proofs.YtpalbpakeokimaaW.PrintMore
attribute [local go_sem] max2_int min2_int max_two min_two max_three min_three max_four min_four
set_option linter.unusedVariables false
set_option linter.unusedSimpArgs false
mutual
def prop_Named.j0 : Nat → ByteArray → Bool → Option (Bool)
  | 0, _, _ => none
  | k + 1, x0, x11 => if x11 = true then (some false) else (prop_Named.l0 k x0 (x0.size : Int) 0)
def prop_Named.l0 : Nat → ByteArray → Int → Int → Option (Bool)
  | 0, _, _, _ => none
  | k + 1, x0, x13, x14 => if x14 < x13 then (if 0 ≤ x14 then (if x14 < (x0.size : Int) then (if (bt x0 x14) ≤ 32 then (prop_Named.j2 k x0 (bt x0 x14) x13 x14 true) else (if (bt x0 x14) > 126 then (prop_Named.j2 k x0 (bt x0 x14) x13 x14 true) else (if (bt x0 x14) ≥ 65 then (prop_Named.j2 k x0 (bt x0 x14) x13 x14 (decide ((bt x0 x14) ≤ 90))) else (prop_Named.j2 k x0 (bt x0 x14) x13 x14 false)))) else (none)) else (none)) else (some true)
def prop_Named.j2 : Nat → ByteArray → Int → Int → Int → Bool → Option (Bool)
  | 0, _, _, _, _, _ => none
  | k + 1, x0, x4, x13, x14, x20 => if x20 = true then (some false) else ((strings_IndexByte.f (⟨#[47, 92, 58, 91, 93, 64]⟩ : ByteArray) x4).bind fun t101 => (if t101 ≥ 0 then (some false) else (prop_Named.l0 k x0 x13 (wrap64 (x14 + 1)))))
end
def prop_Named.f (k : Nat) (a0 : ByteArray) : Option (Bool) := if a0.toList = ([] : List UInt8) then (prop_Named.j0 k a0 true) else (prop_Named.j0 k a0 (decide ((a0.size : Int) > 31)))
theorem prop_Named.mono_l : ∀ k, (∀ y0 y1, LeO (prop_Named.j0 k y0 y1) (prop_Named.j0 (k + 1) y0 y1)) ∧ (∀ y0 y1 y2, LeO (prop_Named.l0 k y0 y1 y2) (prop_Named.l0 (k + 1) y0 y1 y2)) ∧ (∀ y0 y1 y2 y3 y4, LeO (prop_Named.j2 k y0 y1 y2 y3 y4) (prop_Named.j2 (k + 1) y0 y1 y2 y3 y4))
  | 0 => ⟨fun _ _ r h => by simp [prop_Named.j0] at h, fun _ _ _ r h => by simp [prop_Named.l0] at h, fun _ _ _ _ _ r h => by simp [prop_Named.j2] at h⟩
  | k + 1 => by
    obtain ⟨ih0, ih1, ih2⟩ := prop_Named.mono_l k
    refine ⟨?_, ?_, ?_⟩
    · intro y0 y1
      unfold prop_Named.j0
      repeat' first
      | (with_reducible exact ih0 _ _)
      | (with_reducible exact ih1 _ _ _)
      | (with_reducible exact ih2 _ _ _ _ _)
      | (with_reducible exact LeO.refl _)
      | (with_reducible exact LeO.none _)
      | (with_reducible refine LeO.ite ?_ ?_)
      | (with_reducible refine LeO.bind ?_ (fun _ => ?_))
      | exact ih0 _ _
      | exact ih1 _ _ _
      | exact ih2 _ _ _ _ _
      | exact LeO.none _
      | refine LeO.ite ?_ ?_
      | refine LeO.bind ?_ (fun _ => ?_)
    · intro y0 y1 y2
      unfold prop_Named.l0
      repeat' first
      | (with_reducible exact ih0 _ _)
      | (with_reducible exact ih1 _ _ _)
      | (with_reducible exact ih2 _ _ _ _ _)
      | (with_reducible exact LeO.refl _)
      | (with_reducible exact LeO.none _)
      | (with_reducible refine LeO.ite ?_ ?_)
      | (with_reducible refine LeO.bind ?_ (fun _ => ?_))
      | exact ih0 _ _
      | exact ih1 _ _ _
      | exact ih2 _ _ _ _ _
      | exact LeO.none _
      | refine LeO.ite ?_ ?_
      | refine LeO.bind ?_ (fun _ => ?_)
    · intro y0 y1 y2 y3 y4
      unfold prop_Named.j2
      repeat' first
      | (with_reducible exact ih0 _ _)
      | (with_reducible exact ih1 _ _ _)
      | (with_reducible exact ih2 _ _ _ _ _)
      | (with_reducible exact LeO.refl _)
      | (with_reducible exact LeO.none _)
      | (with_reducible refine LeO.ite ?_ ?_)
      | (with_reducible refine LeO.bind ?_ (fun _ => ?_))
      | exact ih0 _ _
      | exact ih1 _ _ _
      | exact ih2 _ _ _ _ _
      | exact LeO.none _
      | refine LeO.ite ?_ ?_
      | refine LeO.bind ?_ (fun _ => ?_)
theorem prop_Named.mono : ∀ a0 k, LeO (prop_Named.f k a0) (prop_Named.f (k + 1) a0) := by
  intro a0 k
  obtain ⟨ih0, ih1, ih2⟩ := prop_Named.mono_l k
  unfold prop_Named.f
  repeat' first
      | (with_reducible exact ih0 _ _)
      | (with_reducible exact ih1 _ _ _)
      | (with_reducible exact ih2 _ _ _ _ _)
      | (with_reducible exact LeO.refl _)
      | (with_reducible exact LeO.none _)
      | (with_reducible refine LeO.ite ?_ ?_)
      | (with_reducible refine LeO.bind ?_ (fun _ => ?_))
      | exact ih0 _ _
      | exact ih1 _ _ _
      | exact ih2 _ _ _ _ _
      | exact LeO.none _
      | refine LeO.ite ?_ ?_
      | refine LeO.bind ?_ (fun _ => ?_)
set_option maxHeartbeats 8000000 in
set_option maxRecDepth 100000 in
theorem prop_Named.calls (k : Nat) (a0 : ByteArray) (r : Bool) (w : World) (h : prop_Named.f k a0 = some r) :
    Calls Try.prog 66 #[.string a0] w fun e w' => e = .returned (.bool r) ∧ Drawn0 w w' := by
  have H : (if a0.toList = ([] : List UInt8) then (prop_Named.j0 k a0 true) else (prop_Named.j0 k a0 (decide ((a0.size : Int) > 31)))) = some r := h
  clear h
  have HC2 := Aside0.mk H
  clear H
  go_enter Try.func66, Try.ntmps66
  go_upto_region 1 with (fail)
  go_cut [11] (fun v11 wc => ∃ (kq : Nat) (x11_1 : Bool), v11 = .bool x11_1 ∧ Aside0 (prop_Named.j0 kq a0 x11_1 = some r) ∧ Aside0 (kq ≤ k) ∧ Drawn0 w wc)
  case first =>
    have H := HC2.out
    clear HC2
    by_cases c3 : a0.toList = ([] : List UInt8)
    · rw [if_pos c3] at H
      have c3b0 : (a0.toList == ([] : List UInt8)) = true := beq_iff_eq.mpr c3
      have c3b1 : (a0.toList != ([] : List UInt8)) = false := bne_eq_false_iff_eq.mpr c3
      clear c3
      (first | rw [c3b0] | (simp only [i64_w, i32_w]; rw [c3b0]) | skip)
      have H' := Aside0.mk H
      clear H
      go_wp2
      go_meet
      case rel => exact ⟨_, (true), (by first | rfl | (simp; done) | (simp [*]; done)), H', ⟨by first | omega | exact Nat.le_refl _⟩, by repeat (first | exact Drawn0.refl _ | apply Drawn0.step)⟩
    · rw [if_neg c3] at H
      have c3b0 : (a0.toList == ([] : List UInt8)) = false := beq_eq_false_iff_ne.mpr c3
      have c3b1 : (a0.toList != ([] : List UInt8)) = true := bne_iff_ne.mpr c3
      (first | rw [c3b0] | (simp only [i64_w, i32_w]; rw [c3b0]) | skip)
      have H' := Aside0.mk H
      clear H
      go_wp2
      go_meet
      case rel => exact ⟨_, (decide ((a0.size : Int) > 31)), (by first | rfl | (simp; done) | (simp [*]; done)), H', ⟨by first | omega | exact Nat.le_refl _⟩, by repeat (first | exact Drawn0.refl _ | apply Drawn0.step)⟩
  case rest =>
    clear HC2
    try clear p2
    try clear c3
    try clear c3b0
    try clear c3b1
    obtain ⟨kq, x11_1, rfl, HA, HJ1, ⟨mc1, rfl⟩⟩ := hcut
    cases kq with
    | zero => exact absurd HA.out (by simp [prop_Named.j0])
    | succ kj1 =>
      have H := HA.out
      clear HA
      simp only [prop_Named.j0] at H
      by_cases c4 : x11_1 = true
      · subst c4
        have H1 : (some false) = some r := by rw [if_pos rfl] at H; exact H
        clear H
        have H := H1
        clear H1
        obtain rfl := Option.some.inj H
        go_wp2
        go_ret
        exact ⟨by first | rfl | (simp; done) | (simp [*]; done), by repeat (first | exact Drawn0.refl _ | apply Drawn0.step)⟩
      · replace c4 := Bool.eq_false_iff.mpr c4
        subst c4
        have H1 : (prop_Named.l0 kj1 a0 (a0.size : Int) 0) = some r := by rw [if_neg (show ¬ (false = true) by decide)] at H; exact H
        clear H
        have H := H1
        clear H1
        have H' := Aside0.mk H
        clear H
        go_wp2
        go_loopg [14] kj1 (fun kq v14 w' => ∃ (x14_2 : Int), v14 = .int .i64 x14_2 ∧ Aside0 (prop_Named.l0 kq a0 (a0.size : Int) x14_2 = some r) ∧ Aside0 (kq ≤ kj1) ∧ Drawn0 w w')
        case atStart => exact ⟨(0), (by first | rfl | (simp; done) | (simp [*]; done)), H', ⟨Nat.le_refl _⟩, by repeat (first | exact Drawn0.refl _ | apply Drawn0.step)⟩
        case round =>
          clear H'
          try clear c1
          try clear p2
          try clear c3
          try clear c3b0
          try clear c3b1
          try clear c4
          try clear p2
          obtain ⟨x14_2, rfl, HA, HK2, ⟨m2, rfl⟩⟩ := hrel
          cases gk with
          | zero => exact absurd HA.out (by simp [prop_Named.l0])
          | succ k2 =>
            have H := HA.out
            clear HA
            simp only [prop_Named.l0] at H
            by_cases c5 : x14_2 < (a0.size : Int)
            · rw [if_pos c5] at H
              have c5b0 : decide (x14_2 < (a0.size : Int)) = true := decide_eq_true c5
              clear c5
              by_cases c6 : 0 ≤ x14_2
              · rw [if_pos c6] at H
                have c6b0 : decide (0 ≤ x14_2) = true := decide_eq_true c6
                clear c6
                by_cases c7 : x14_2 < (a0.size : Int)
                · rw [if_pos c7] at H
                  have c7b0 : decide (x14_2 < (a0.size : Int)) = true := decide_eq_true c7
                  clear c7
                  have HC9 := Aside0.mk H
                  clear H
                  have p8 : 0 ≤ (x14_2 : Int) := of_decide_eq_true (by first | (with_reducible assumption) | assumption)
                  have q8 : x14_2 < (a0.size : Int) := of_decide_eq_true (by first | (with_reducible assumption) | assumption)
                  have hx8 := bt_at a0 x14_2
                  replace p8 := eq_true p8
                  replace q8 := eq_true q8
                  go_upto_region 7 with (fail)
                  go_cut [20] (fun v20 wc => ∃ (kq : Nat) (x20_8 : Bool), v20 = .bool x20_8 ∧ Aside0 (prop_Named.j2 kq a0 (bt a0 x14_2) (a0.size : Int) x14_2 x20_8 = some r) ∧ Aside0 (kq ≤ k2) ∧ Drawn0 w wc)
                  case first =>
                    have H := HC9.out
                    clear HC9
                    by_cases c10 : (bt a0 x14_2) ≤ 32
                    · rw [if_pos c10] at H
                      have c10b0 : decide ((bt a0 x14_2) ≤ 32) = true := decide_eq_true c10
                      clear c10
                      (first | rw [c10b0] | (simp only [i64_w, i32_w]; rw [c10b0]) | skip)
                      have H' := Aside0.mk H
                      clear H
                      go_wp2
                      go_meet
                      case rel => exact ⟨_, (true), (by first | rfl | (simp; done) | (simp [*]; done)), H', ⟨by have := HJ1.out; have := HK2.out; first | omega | exact Nat.le_refl _⟩, by repeat (first | exact Drawn0.refl _ | apply Drawn0.step)⟩
                    · rw [if_neg c10] at H
                      have c10b0 : decide ((bt a0 x14_2) ≤ 32) = false := decide_eq_false c10
                      clear c10
                      (first | rw [c10b0] | (simp only [i64_w, i32_w]; rw [c10b0]) | skip)
                      by_cases c11 : (bt a0 x14_2) > 126
                      · rw [if_pos c11] at H
                        have c11b0 : decide (126 < (bt a0 x14_2)) = true := decide_eq_true c11
                        clear c11
                        have H' := Aside0.mk H
                        clear H
                        go_wp2
                        go_meet
                        case rel => exact ⟨_, (true), (by first | rfl | (simp; done) | (simp [*]; done)), H', ⟨by have := HJ1.out; have := HK2.out; first | omega | exact Nat.le_refl _⟩, by repeat (first | exact Drawn0.refl _ | apply Drawn0.step)⟩
                      · rw [if_neg c11] at H
                        have c11b0 : decide (126 < (bt a0 x14_2)) = false := decide_eq_false c11
                        clear c11
                        by_cases c12 : (bt a0 x14_2) ≥ 65
                        · rw [if_pos c12] at H
                          have c12b0 : decide (65 ≤ (bt a0 x14_2)) = true := decide_eq_true c12
                          clear c12
                          have H' := Aside0.mk H
                          clear H
                          go_wp2
                          go_meet
                          case rel => exact ⟨_, (decide ((bt a0 x14_2) ≤ 90)), (by first | rfl | (simp; done) | (simp [*]; done)), H', ⟨by have := HJ1.out; have := HK2.out; first | omega | exact Nat.le_refl _⟩, by repeat (first | exact Drawn0.refl _ | apply Drawn0.step)⟩
                        · rw [if_neg c12] at H
                          have c12b0 : decide (65 ≤ (bt a0 x14_2)) = false := decide_eq_false c12
                          clear c12
                          have H' := Aside0.mk H
                          clear H
                          go_wp2
                          go_meet
                          case rel => exact ⟨_, (false), (by first | rfl | (simp; done) | (simp [*]; done)), H', ⟨by have := HJ1.out; have := HK2.out; first | omega | exact Nat.le_refl _⟩, by repeat (first | exact Drawn0.refl _ | apply Drawn0.step)⟩
                  case rest =>
                    clear HC9
                    try clear c1
                    try clear p2
                    try clear c3
                    try clear c3b0
                    try clear c3b1
                    try clear c4
                    try clear c5
                    try clear c5b0
                    try clear c6
                    try clear c6b0
                    try clear c7
                    try clear c7b0
                    try clear p8
                    try clear q8
                    try clear hx8
                    try clear c10
                    try clear c10b0
                    try clear c11
                    try clear c11b0
                    try clear c12
                    try clear c12b0
                    try clear p2
                    try clear p8
                    try clear q8
                    obtain ⟨kq, x20_8, rfl, HA, HJ8, ⟨mc8, rfl⟩⟩ := hcut
                    cases kq with
                    | zero => exact absurd HA.out (by simp [prop_Named.j2])
                    | succ kj8 =>
                      have H := HA.out
                      clear HA
                      simp only [prop_Named.j2] at H
                      by_cases c13 : x20_8 = true
                      · subst c13
                        have H1 : (some false) = some r := by rw [if_pos rfl] at H; exact H
                        clear H
                        have H := H1
                        clear H1
                        obtain rfl := Option.some.inj H
                        go_wp2
                        go_ret
                        exact ⟨by first | rfl | (simp; done) | (simp [*]; done), by repeat (first | exact Drawn0.refl _ | apply Drawn0.step)⟩
                      · replace c13 := Bool.eq_false_iff.mpr c13
                        subst c13
                        have H1 : ((strings_IndexByte.f (⟨#[47, 92, 58, 91, 93, 64]⟩ : ByteArray) (bt a0 x14_2)).bind fun t101 => (if t101 ≥ 0 then (some false) else (prop_Named.l0 kj8 a0 (a0.size : Int) (wrap64 (x14_2 + 1))))) = some r := by rw [if_neg (show ¬ (false = true) by decide)] at H; exact H
                        clear H
                        have H := H1
                        clear H1
                        replace H := Option.bind_eq_some_iff.mp H
                        obtain ⟨t101, A140, H⟩ := H
                        replace H : (if t101 ≥ 0 then (some false) else (prop_Named.l0 kj8 a0 (a0.size : Int) (wrap64 (x14_2 + 1)))) = some r := H
                        have A14 := Aside0.mk A140
                        clear A140
                        by_cases c15 : t101 ≥ 0
                        · rw [if_pos c15] at H
                          have c15b0 : decide (0 ≤ t101) = true := decide_eq_true c15
                          clear c15
                          obtain rfl := Option.some.inj H
                          go_wp2_with (first | ((with_reducible refine gate_callee (f := 88) rfl ?_); refine goesL_ (some 37) rfl rfl Try.func88 (by kernel_rfl) rfl #[.string (⟨#[47, 92, 58, 91, 93, 64]⟩ : ByteArray), .int .u8 (bt a0 x14_2)] rfl (by (try simp only [List.map_toArray, List.map_cons, List.map_nil]); first | done | rfl | (simp only [List.length_drop, List.length_take]; rfl)) ?_; (with_reducible refine (strings_IndexByte.calls (⟨#[47, 92, 58, 91, 93, 64]⟩ : ByteArray) (bt a0 x14_2) t101 _ A14.out).mono ?_); rintro e w' ⟨rfl, ⟨nd, rfl⟩⟩; refine ⟨_, rfl, ?_⟩))
                          go_ret
                          exact ⟨by first | rfl | (simp; done) | (simp [*]; done), by repeat (first | exact Drawn0.refl _ | apply Drawn0.step)⟩
                        · rw [if_neg c15] at H
                          have c15b0 : decide (0 ≤ t101) = false := decide_eq_false c15
                          clear c15
                          have H' := Aside0.mk H
                          clear H
                          go_wp2_with (first | ((with_reducible refine gate_callee (f := 88) rfl ?_); refine goesL_ (some 37) rfl rfl Try.func88 (by kernel_rfl) rfl #[.string (⟨#[47, 92, 58, 91, 93, 64]⟩ : ByteArray), .int .u8 (bt a0 x14_2)] rfl (by (try simp only [List.map_toArray, List.map_cons, List.map_nil]); first | done | rfl | (simp only [List.length_drop, List.length_take]; rfl)) ?_; (with_reducible refine (strings_IndexByte.calls (⟨#[47, 92, 58, 91, 93, 64]⟩ : ByteArray) (bt a0 x14_2) t101 _ A14.out).mono ?_); rintro e w' ⟨rfl, ⟨nd, rfl⟩⟩; refine ⟨_, rfl, ?_⟩))
                          go_roundg kj8
                          case measure => have := HJ1.out; have := HK2.out; have := HJ8.out; omega
                          case rel => exact ⟨(wrap64 (x14_2 + 1)), (by first | rfl | (simp; done) | (simp [*]; done)), H', ⟨by have := HJ1.out; have := HK2.out; have := HJ8.out; omega⟩, by repeat (first | exact Drawn0.refl _ | apply Drawn0.step)⟩
                · rw [if_neg c7] at H
                  exact absurd H (by simp)
              · rw [if_neg c6] at H
                exact absurd H (by simp)
            · rw [if_neg c5] at H
              have c5b0 : decide (x14_2 < (a0.size : Int)) = false := decide_eq_false c5
              clear c5
              obtain rfl := Option.some.inj H
              go_wp2
              go_ret
              exact ⟨by first | rfl | (simp; done) | (simp [*]; done), by repeat (first | exact Drawn0.refl _ | apply Drawn0.step)⟩
end Go.Proofs.Ytpalbpakeokimaa.PK
namespace Go.Proofs.Ytpalbpakeokimaa.PK
set_option linter.unusedVariables false
set_option linter.unusedSimpArgs false
open Go.RowKit Go.Proofs.YtpalbpakeokimaaW.PrintWords Go.Proofs.YtpalbpakeokimaaW.PrintLast Go.Proofs.YtpalbpakeokimaaW.PrintMore
def okB (b : UInt8) : Bool := decide (33 ≤ b.toNat) && decide (b.toNat ≤ 126) && !(decide (65 ≤ b.toNat) && decide (b.toNat ≤ 90)) && !([47, 92, 58, 91, 93, 64].contains b)
def propNamedB (s : ByteArray) : Bool := decide (1 ≤ s.size) && decide (s.size ≤ 31) && s.data.toList.all okB
theorem bt_get (s : ByteArray) (i : Nat) (h : i < s.data.toList.length) : bt s (i : Int) = ((s.data.toList[i]).toNat : Int) := by
  have h' : i < s.size := by simpa using h
  simp [bt, h']
  rfl
theorem indexByte_has (l : List UInt8) (c : UInt8) : decide (0 ≤ Lib.indexByte l c) = l.contains c ∧ -1 ≤ Lib.indexByte l c := by
  induction l with
  | nil => exact ⟨rfl, Int.le_refl _⟩
  | cons b l ih =>
    obtain ⟨h1, h2⟩ := ih
    unfold Lib.indexByte
    by_cases hb : b = c
    · subst hb
      simp
    · have e1 : (b == c) = false := by simpa using hb
      have e2 : (c == b) = false := by simpa using fun h => hb h.symm
      simp only [e1, List.contains_cons, e2, Bool.false_or, ← h1]
      by_cases hm : Lib.indexByte l c = -1
      · rw [hm]
        exact ⟨rfl, by decide⟩
      · have e3 : (Lib.indexByte l c == -1) = false := by simpa using hm
        rw [e3]
        simp only [Bool.false_eq_true, if_false]
        refine ⟨?_, by omega⟩
        by_cases h0 : 0 ≤ Lib.indexByte l c
        · rw [decide_eq_true h0, decide_eq_true (by omega)]
        · omega
theorem named_l0 (s : ByteArray) (hs : s.size ≤ 31) : ∀ (d i : Nat), i + d = s.size → ∀ k, 2 * d + 1 ≤ k → prop_Named.l0 k s (s.size : Int) (i : Int) = some ((s.data.toList.drop i).all okB) := by
  have hl : s.data.toList.length = s.size := by simp
  intro d
  induction d with
  | zero =>
    intro i hi k hk
    obtain ⟨k, rfl⟩ : ∃ m, k = m + 1 := ⟨k - 1, by omega⟩
    simp only [prop_Named.l0]
    rw [if_neg (by omega), List.drop_eq_nil_of_le (by omega)]
    rfl
  | succ d ih =>
    intro i hi k hk
    obtain ⟨k, rfl⟩ : ∃ m, k = m + 2 := ⟨k - 2, by omega⟩
    have hil : i < s.data.toList.length := by omega
    have ih' := ih (i + 1) (by omega) k (by omega)
    rw [List.drop_eq_getElem_cons hil, List.all_cons]
    simp only [prop_Named.l0]
    rw [if_pos (by omega), if_pos (by omega), if_pos (by omega)]
    rw [bt_get s i hil]
    generalize hb : s.data.toList[i] = b
    have hbt := b.toNat_lt
    have hj : prop_Named.j2 (k + 1) s (b.toNat : Int) (s.size : Int) (i : Int) true = some false := by simp only [prop_Named.j2]; rfl
    have hf : prop_Named.j2 (k + 1) s (b.toNat : Int) (s.size : Int) (i : Int) false = if [47, 92, 58, 91, 93, 64].contains b then some false else some ((s.data.toList.drop (i + 1)).all okB) := by
      simp only [prop_Named.j2, strings_IndexByte.f, Option.bind_some]
      have e1 : ((b.toNat : Int).toNat.toUInt8) = b := by simp
      have e2 : wrap64 ((i : Int) + 1) = ((i + 1 : Nat) : Int) := by unfold wrap64; omega
      rw [e1, e2, ih']
      have := (indexByte_has [47, 92, 58, 91, 93, 64] b).1
      simp only [Bool.false_eq_true, if_false]
      by_cases hc : [47, 92, 58, 91, 93, 64].contains b = true
      · rw [if_pos hc, if_pos (by rw [hc] at this; simpa using this)]
      · rw [if_neg hc, if_neg (by intro h; rw [decide_eq_true h] at this; exact hc this.symm)]
    by_cases h1 : (b.toNat : Int) ≤ 32
    · rw [if_pos h1, hj]
      have : okB b = false := by simp [okB]; omega
      rw [this]; rfl
    rw [if_neg h1]
    by_cases h2 : (b.toNat : Int) > 126
    · rw [if_pos h2, hj]
      have : okB b = false := by simp [okB]; omega
      rw [this]; rfl
    rw [if_neg h2]
    have hok : okB b = (!(decide (65 ≤ b.toNat) && decide (b.toNat ≤ 90)) && !([47, 92, 58, 91, 93, 64].contains b)) := by
      unfold okB
      rw [decide_eq_true (show 33 ≤ b.toNat by omega), decide_eq_true (show b.toNat ≤ 126 by omega)]
      rfl
    by_cases h3 : (b.toNat : Int) ≥ 65
    · rw [if_pos h3]
      by_cases h4 : (b.toNat : Int) ≤ 90
      · rw [decide_eq_true h4, hj]
        have : okB b = false := by rw [hok, decide_eq_true (show 65 ≤ b.toNat by omega), decide_eq_true (show b.toNat ≤ 90 by omega)]; rfl
        rw [this]; rfl
      · rw [decide_eq_false h4, hf, hok, decide_eq_false (show ¬ b.toNat ≤ 90 by omega)]
        cases [47, 92, 58, 91, 93, 64].contains b <;> simp
    · rw [if_neg h3, hf, hok, decide_eq_false (show ¬ 65 ≤ b.toNat by omega)]
      cases [47, 92, 58, 91, 93, 64].contains b <;> simp
theorem prop_Named_eq (s : ByteArray) : ∃ k, prop_Named.f k s = some (propNamedB s) := by
  have hl : s.toList.length = s.size := by rw [ByteArray.toList_eq]; simp
  unfold prop_Named.f propNamedB
  by_cases h0 : s.toList = []
  · refine ⟨1, ?_⟩
    rw [if_pos h0]
    have : s.size = 0 := by rw [← hl, h0]; rfl
    simp [prop_Named.j0, this]
  · have h1 : 1 ≤ s.size := by
      rcases Nat.eq_zero_or_pos s.size with h | h
      · exact absurd (List.eq_nil_of_length_eq_zero (hl.trans h)) h0
      · exact h
    by_cases h2 : s.size ≤ 31
    · refine ⟨2 * s.size + 2, ?_⟩
      rw [if_neg h0, decide_eq_false (by omega)]
      simp only [prop_Named.j0, Bool.false_eq_true, if_false]
      have := named_l0 s h2 s.size 0 (by omega) (2 * s.size + 1) (by omega)
      rw [List.drop_zero] at this
      rw [show (0 : Int) = ((0 : Nat) : Int) from rfl, this, decide_eq_true h1, decide_eq_true h2]
      rfl
    · refine ⟨1, ?_⟩
      rw [if_neg h0, decide_eq_true (by omega), decide_eq_false h2]
      simp [prop_Named.j0]
theorem prop_Named_any (s : ByteArray) (w : World) : Calls Try.prog 66 #[.string s] w fun e w' => e = .returned (.bool (propNamedB s)) ∧ Drawn0 w w' := by
  obtain ⟨k, hk⟩ := prop_Named_eq s
  exact prop_Named.calls k s _ w hk
end Go.Proofs.Ytpalbpakeokimaa.PK
