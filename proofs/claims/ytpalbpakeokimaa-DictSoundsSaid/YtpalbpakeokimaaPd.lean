/- The plain law of DictSounds. -/
import Derived.Test.YtpalbpakeokimaaK47
import Derived.Laws.RangeAny
namespace Go.Proofs.Ytpalbpakeokimaa.PK
set_option linter.unusedVariables false
set_option linter.unusedSimpArgs false
open Go.RowKit Go.Proofs.YtpalbpakeokimaaW.PrintWords Go.Proofs.YtpalbpakeokimaaW.PrintLast Go.Proofs.YtpalbpakeokimaaW.PrintMore
open Go.Lib
theorem wrap_next (i : Nat) (h : i < 9223372036854775807) : wrap64 ((i : Int) + 1) = ((i + 1 : Nat) : Int) := by
  unfold wrap64
  omega
theorem bt_nat (s : ByteArray) (i : Nat) (h : i < s.size) : bt s (i : Int) = ((s[i]'h).toNat : Int) := by
  unfold bt
  simp [h]
/-- names: dict.Named and tinderref09.Named answer alike -/
theorem named_from (a : ByteArray) (ha : a.size ≤ 9223372036854775807) : ∀ (j pos : Nat), pos + j = a.size → ∀ f k, j ≤ f → j + 1 ≤ k →
    tinderref09_Named.l0 k a (pos : Int) = some (decide (1 ≤ a.size) && decide (a.size ≤ 31) && decide (idxFuncFrom odd true a f pos < 0)) := by
  intro j
  induction j with
  | zero =>
    intro pos hp f k _ hk
    obtain ⟨k', rfl⟩ : ∃ k', k = k' + 1 := ⟨k - 1, by omega⟩
    rw [idxFuncFrom_end _ _ _ _ _ (by omega)]
    unfold tinderref09_Named.l0
    rw [if_neg (by omega)]
    by_cases h : 1 ≤ a.size
    · rw [if_pos (by omega)]
      simp [h]
      omega
    · rw [if_neg (by omega)]
      simp [h]
  | succ j ih =>
    intro pos hp f k hf hk
    obtain ⟨k', rfl⟩ : ∃ k', k = k' + 1 := ⟨k - 1, by omega⟩
    obtain ⟨f', rfl⟩ : ∃ f', f = f' + 1 := ⟨f - 1, by omega⟩
    have hlt : pos < a.size := by omega
    have hnext := ih (pos + 1) (by omega) f' k' (by omega) (by omega)
    unfold tinderref09_Named.l0 idxFuncFrom
    rw [if_pos (by omega), if_pos (by omega), if_pos hlt, wrap_next pos (by omega), bt_nat a pos hlt]
    by_cases hasc : (a[pos]'hlt).toNat < 128
    · rw [decode_ascii a pos hlt hasc]
      dsimp only
      generalize (a[pos]'hlt).toNat = b at *
      by_cases c1 : b < 33
      · rw [if_pos (by omega), if_pos (by simp [odd]; omega)]
        rw [decide_eq_false (show ¬ ((pos : Int) < 0) by omega), Bool.and_false]
      · rw [if_neg (by omega)]
        by_cases c2 : 126 < b
        · rw [if_pos (by omega), if_pos (by simp [odd]; omega)]
          rw [decide_eq_false (show ¬ ((pos : Int) < 0) by omega), Bool.and_false]
        · rw [if_neg (by omega)]
          by_cases c3 : 65 ≤ b
          · rw [if_pos (by omega)]
            by_cases c4 : b ≤ 90
            · rw [if_pos (by omega), if_pos (by simp [odd]; omega)]
              rw [decide_eq_false (show ¬ ((pos : Int) < 0) by omega), Bool.and_false]
            · rw [if_neg (by omega), if_neg (by simp [odd]; omega)]
              exact hnext
          · rw [if_neg (by omega), if_neg (by simp [odd]; omega)]
            exact hnext
    · obtain ⟨h1, h2⟩ := decode_high a pos hlt (by omega)
      rw [if_neg (by omega), if_pos (by omega), if_pos (by simp [odd]; omega)]
      rw [decide_eq_false (show ¬ ((pos : Int) < 0) by omega), Bool.and_false]
theorem named_both (a : ByteArray) (ha : a.size ≤ 9223372036854775807) (k : Nat) (hk : a.size + 1 ≤ k) : tinderref09_Named.f k a = dict_Named.f a := by
  unfold tinderref09_Named.f dict_Named.f idxFunc
  exact named_from a ha a.size 0 (by omega) a.size k (Nat.le_refl _) hk
set_option maxHeartbeats 4000000 in
theorem sound_from (l : List S57) (a1 : Int) (hl : l.length ≤ 256) : ∀ (j i : Nat), i + j = l.length → ∀ k, 4 * j + 4 ≤ k →
    ∃ b, dict_Sound.l0 k l a1 l (l.length : Int) (i : Int) = some b ∧ tinderref09_Sound.l0 k l a1 (i : Int) = some b := by
  intro j
  induction j with
  | zero =>
    intro i hi k hk
    obtain ⟨k', rfl⟩ : ∃ k', k = k' + 1 := ⟨k - 1, by omega⟩
    refine ⟨true, ?_, ?_⟩
    · unfold dict_Sound.l0
      rw [if_neg (by omega)]
    · unfold tinderref09_Sound.l0
      rw [if_neg (by omega)]
  | succ j ih =>
    intro i hi k hk
    obtain ⟨k', rfl⟩ : ∃ k', k = k' + 4 := ⟨k - 4, by omega⟩
    have ih0 := ih (i + 1) (by omega) k' (by omega)
    have ih1 := ih (i + 1) (by omega) (k' + 1) (by omega)
    have ih2 := ih (i + 1) (by omega) (k' + 2) (by omega)
    have ih3 := ih (i + 1) (by omega) (k' + 3) (by omega)
    have hw : wrap64 ((i : Int) + 1) = ((i + 1 : Nat) : Int) := wrap_next i (by omega)
    have hlt : (i : Int) < (l.length : Int) := by omega
    have h0 : (0 : Int) ≤ (i : Int) := by omega
    unfold dict_Sound.l0 tinderref09_Sound.l0
    simp only [hlt, h0, if_true, hw]
    generalize (rd_T57 l (i : Int)).f0 = kd at *
    generalize wrap64 (rd_T57 l (i : Int)).f1 = n at *
    by_cases e1 : kd = 1
    · simp only [e1, if_true]; exact ih3
    by_cases e2 : kd = 2
    · subst e2
      simp only [dict_Sound.j1, tinderref09_Sound.j1, if_true, beq_self_eq_true, e1, hw, if_false]
      by_cases c : n < a1
      · simp only [c, if_true, show ¬ n ≥ a1 by omega, if_false]; exact ih2
      · simp only [c, if_false, show n ≥ a1 by omega, if_true]; exact ⟨false, rfl, rfl⟩
    by_cases e13 : kd = 13
    · subst e13
      simp only [dict_Sound.j1, tinderref09_Sound.j1, if_true, beq_self_eq_true, e1, e2, hw, if_false]
      by_cases c : n < a1
      · simp only [c, if_true, show ¬ n ≥ a1 by omega, if_false]; exact ih2
      · simp only [c, if_false, show n ≥ a1 by omega, if_true]; exact ⟨false, rfl, rfl⟩
    have b13 : (kd == 13) = false := by simpa using e13
    by_cases e11 : kd = 11
    · subst e11
      simp only [dict_Sound.j1, tinderref09_Sound.j1, dict_Sound.j2, tinderref09_Sound.j2, if_true, beq_self_eq_true, e1, e2, b13, hw, if_false, Bool.false_eq_true]
      by_cases c : n = 0
      · simp only [c, if_true]; exact ih1
      · simp only [c, if_false]; exact ⟨false, rfl, rfl⟩
    by_cases e12 : kd = 12
    · subst e12
      simp only [dict_Sound.j1, tinderref09_Sound.j1, dict_Sound.j2, tinderref09_Sound.j2, if_true, beq_self_eq_true, e1, e2, b13, e11, hw, if_false, Bool.false_eq_true]
      by_cases c : n = 0
      · simp only [c, if_true]; exact ih1
      · simp only [c, if_false]; exact ⟨false, rfl, rfl⟩
    have b12 : (kd == 12) = false := by simpa using e12
    have jump : (dict_Sound.j3 (k' + 1) l a1 false n l (l.length : Int) (i : Int) true = if n ≤ (l.length : Int) then dict_Sound.l0 k' l a1 l (l.length : Int) ((i + 1 : Nat) : Int) else some false) := by
      simp only [dict_Sound.j3, if_true, hw]
    have jump' : (tinderref09_Sound.j3 (k' + 1) l a1 (i : Int) n true = if n > (l.length : Int) then some false else tinderref09_Sound.l0 k' l a1 ((i + 1 : Nat) : Int)) := by
      simp only [tinderref09_Sound.j3, if_true, hw]
    have both : ∃ b, dict_Sound.j3 (k' + 1) l a1 false n l (l.length : Int) (i : Int) true = some b ∧ tinderref09_Sound.j3 (k' + 1) l a1 (i : Int) n true = some b := by
      rw [jump, jump']
      by_cases c : n ≤ (l.length : Int)
      · simp only [c, if_true, show ¬ n > (l.length : Int) by omega, if_false]; exact ih0
      · simp only [c, if_false, show n > (l.length : Int) by omega, if_true]; exact ⟨false, rfl, rfl⟩
    simp only [dict_Sound.j1, tinderref09_Sound.j1, dict_Sound.j2, tinderref09_Sound.j2, e1, e2, b13, e11, b12, if_false, Bool.false_eq_true]
    by_cases e3 : kd = 3
    · subst e3; exact both
    by_cases e4 : kd = 4
    · subst e4; exact both
    by_cases e5 : kd = 5
    · subst e5; exact both
    by_cases e6 : kd = 6
    · subst e6; exact both
    by_cases e7 : kd = 7
    · subst e7; exact both
    by_cases e8 : kd = 8
    · subst e8; exact both
    by_cases e9 : kd = 9
    · subst e9; exact both
    simp only [e3, e4, e5, e6, e7, e8, e9, if_false]
    by_cases e10 : kd = 10
    · subst e10; exact both
    have b10 : (kd == 10) = false := by simpa using e10
    rw [b10]
    exact ⟨false, by simp only [dict_Sound.j3, Bool.false_eq_true, if_false], by simp only [tinderref09_Sound.j3, Bool.false_eq_true, if_false]⟩
theorem sound_both (l : List S57) (a1 : Int) (k : Nat) (hk : 4 * l.length + 4 ≤ k) : ∃ b, dict_Sound.f k l a1 = some b ∧ tinderref09_Sound.f k l a1 = some b := by
  unfold dict_Sound.f tinderref09_Sound.f
  by_cases h : (l.length : Int) > 256
  · rw [if_pos h, if_pos h]
    exact ⟨false, rfl, rfl⟩
  · rw [if_neg h, if_neg h]
    exact sound_from l a1 (by omega) l.length 0 (by omega) k hk
theorem DictSounds_true (l0 : List S57) (a1 : Int) (a2 : ByteArray) (h2 : a2.size ≤ 9223372036854775807) : ∃ k, tinderlaw09_DictSounds.f k l0 a1 a2 = some true := by
  refine ⟨4 * l0.length + 4 + (a2.size + 1), ?_⟩
  obtain ⟨b, h1, h3⟩ := sound_both l0 a1 (4 * l0.length + 4 + (a2.size + 1)) (by omega)
  unfold tinderlaw09_DictSounds.f
  rw [alive_true, Option.bind_some, if_pos rfl, h1, Option.bind_some, h3, Option.bind_some, if_pos (by simp), named_both a2 h2 _ (by omega)]
  unfold dict_Named.f
  simp
end Go.Proofs.Ytpalbpakeokimaa.PK
