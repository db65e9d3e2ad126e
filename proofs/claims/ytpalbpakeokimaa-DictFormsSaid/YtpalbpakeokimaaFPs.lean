/- tinder: a part of the proof, joined and pruned by wip/tools/prune.py out of: Ps -/
import Derived.Test.YtpalbpakeokimaaFK41
import Derived.Test.YtpalbpakeokimaaFK42
namespace Go.Proofs.Ytpalbpakeokimaa.PK
open Go.RowKit Go.Proofs.YtpalbpakeokimaaW.PrintWords
set_option linter.unusedVariables false
set_option linter.unusedSimpArgs false
theorem wrap_next (i : Nat) (h : i < 9223372036854775807) : wrap64 ((i : Int) + 1) = ((i + 1 : Nat) : Int) := by
  unfold wrap64
  omega
set_option maxHeartbeats 4000000 in
theorem sound_from (l : List S57) (a1 : Int) (hl : l.length ≤ 256) : ∀ (j i : Nat), i + j = l.length → ∀ k, 4 * j + 4 ≤ k →
    ∃ b, dict_Sound.l0 k l a1 l (l.length : Int) (i : Int) = some b ∧ tinderref09_Sound.l0 k l a1 (i : Int) = some b := by
  intro j
  induction j with
  | zero =>
    intro i hi k hk
    obtain ⟨k', rfl⟩ : ∃ k', k = k' + 1 := ⟨k - 1, by omega⟩
    refine ⟨true, ?_, ?_⟩
    · unfold dict_Sound.l0
      rw [if_neg (by omega)]
    · unfold tinderref09_Sound.l0
      rw [if_neg (by omega)]
  | succ j ih =>
    intro i hi k hk
    obtain ⟨k', rfl⟩ : ∃ k', k = k' + 4 := ⟨k - 4, by omega⟩
    have ih0 := ih (i + 1) (by omega) k' (by omega)
    have ih1 := ih (i + 1) (by omega) (k' + 1) (by omega)
    have ih2 := ih (i + 1) (by omega) (k' + 2) (by omega)
    have ih3 := ih (i + 1) (by omega) (k' + 3) (by omega)
    have hw : wrap64 ((i : Int) + 1) = ((i + 1 : Nat) : Int) := wrap_next i (by omega)
    have hlt : (i : Int) < (l.length : Int) := by omega
    have h0 : (0 : Int) ≤ (i : Int) := by omega
    unfold dict_Sound.l0 tinderref09_Sound.l0
    simp only [hlt, h0, if_true, hw]
    generalize (rd_T57 l (i : Int)).f0 = kd at *
    generalize wrap64 (rd_T57 l (i : Int)).f1 = n at *
    by_cases e1 : kd = 1
    · simp only [e1, if_true]; exact ih3
    by_cases e2 : kd = 2
    · subst e2
      simp only [dict_Sound.j1, tinderref09_Sound.j1, if_true, beq_self_eq_true, e1, hw, if_false]
      by_cases c : n < a1
      · simp only [c, if_true, show ¬ n ≥ a1 by omega, if_false]; exact ih2
      · simp only [c, if_false, show n ≥ a1 by omega, if_true]; exact ⟨false, rfl, rfl⟩
    by_cases e13 : kd = 13
    · subst e13
      simp only [dict_Sound.j1, tinderref09_Sound.j1, if_true, beq_self_eq_true, e1, e2, hw, if_false]
      by_cases c : n < a1
      · simp only [c, if_true, show ¬ n ≥ a1 by omega, if_false]; exact ih2
      · simp only [c, if_false, show n ≥ a1 by omega, if_true]; exact ⟨false, rfl, rfl⟩
    have b13 : (kd == 13) = false := by simpa using e13
    by_cases e11 : kd = 11
    · subst e11
      simp only [dict_Sound.j1, tinderref09_Sound.j1, dict_Sound.j2, tinderref09_Sound.j2, if_true, beq_self_eq_true, e1, e2, b13, hw, if_false, Bool.false_eq_true]
      by_cases c : n = 0
      · simp only [c, if_true]; exact ih1
      · simp only [c, if_false]; exact ⟨false, rfl, rfl⟩
    by_cases e12 : kd = 12
    · subst e12
      simp only [dict_Sound.j1, tinderref09_Sound.j1, dict_Sound.j2, tinderref09_Sound.j2, if_true, beq_self_eq_true, e1, e2, b13, e11, hw, if_false, Bool.false_eq_true]
      by_cases c : n = 0
      · simp only [c, if_true]; exact ih1
      · simp only [c, if_false]; exact ⟨false, rfl, rfl⟩
    have b12 : (kd == 12) = false := by simpa using e12
    have jump : (dict_Sound.j3 (k' + 1) l a1 false n l (l.length : Int) (i : Int) true = if n ≤ (l.length : Int) then dict_Sound.l0 k' l a1 l (l.length : Int) ((i + 1 : Nat) : Int) else some false) := by
      simp only [dict_Sound.j3, if_true, hw]
    have jump' : (tinderref09_Sound.j3 (k' + 1) l a1 (i : Int) n true = if n > (l.length : Int) then some false else tinderref09_Sound.l0 k' l a1 ((i + 1 : Nat) : Int)) := by
      simp only [tinderref09_Sound.j3, if_true, hw]
    have both : ∃ b, dict_Sound.j3 (k' + 1) l a1 false n l (l.length : Int) (i : Int) true = some b ∧ tinderref09_Sound.j3 (k' + 1) l a1 (i : Int) n true = some b := by
      rw [jump, jump']
      by_cases c : n ≤ (l.length : Int)
      · simp only [c, if_true, show ¬ n > (l.length : Int) by omega, if_false]; exact ih0
      · simp only [c, if_false, show n > (l.length : Int) by omega, if_true]; exact ⟨false, rfl, rfl⟩
    simp only [dict_Sound.j1, tinderref09_Sound.j1, dict_Sound.j2, tinderref09_Sound.j2, e1, e2, b13, e11, b12, if_false, Bool.false_eq_true]
    by_cases e3 : kd = 3
    · subst e3; exact both
    by_cases e4 : kd = 4
    · subst e4; exact both
    by_cases e5 : kd = 5
    · subst e5; exact both
    by_cases e6 : kd = 6
    · subst e6; exact both
    by_cases e7 : kd = 7
    · subst e7; exact both
    by_cases e8 : kd = 8
    · subst e8; exact both
    by_cases e9 : kd = 9
    · subst e9; exact both
    simp only [e3, e4, e5, e6, e7, e8, e9, if_false]
    by_cases e10 : kd = 10
    · subst e10; exact both
    have b10 : (kd == 10) = false := by simpa using e10
    rw [b10]
    exact ⟨false, by simp only [dict_Sound.j3, Bool.false_eq_true, if_false], by simp only [tinderref09_Sound.j3, Bool.false_eq_true, if_false]⟩
theorem sound_both (l : List S57) (a1 : Int) (k : Nat) (hk : 4 * l.length + 4 ≤ k) : ∃ b, dict_Sound.f k l a1 = some b ∧ tinderref09_Sound.f k l a1 = some b := by
  unfold dict_Sound.f tinderref09_Sound.f
  by_cases h : (l.length : Int) > 256
  · rw [if_pos h, if_pos h]
    exact ⟨false, rfl, rfl⟩
  · rw [if_neg h, if_neg h]
    exact sound_from l a1 (by omega) l.length 0 (by omega) k hk
end Go.Proofs.Ytpalbpakeokimaa.PK
