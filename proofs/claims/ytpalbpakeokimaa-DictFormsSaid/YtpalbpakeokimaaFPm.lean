/- tinder: a part of the proof, joined and pruned by wip/tools/prune.py out of: Pm -/
import Derived.Test.YtpalbpakeokimaaFK46
import Derived.Test.YtpalbpakeokimaaFGa
import Derived.Test.YtpalbpakeokimaaFPs
namespace Go.Proofs.Ytpalbpakeokimaa.PK
set_option linter.unusedVariables false
set_option linter.unusedSimpArgs false
open Go.RowKit Go.Proofs.YtpalbpakeokimaaW.PrintWords Go.Proofs.YtpalbpakeokimaaW.PrintLast Go.Proofs.YtpalbpakeokimaaW.PrintMore
open Go.Lib
theorem bt_nat (s : ByteArray) (i : Nat) (h : i < s.size) : bt s (i : Int) = ((s[i]'h).toNat : Int) := by
  unfold bt
  simp [h]
theorem named_from (a : ByteArray) (ha : a.size ≤ 9223372036854775807) : ∀ (j pos : Nat), pos + j = a.size → ∀ f k, j ≤ f → j + 1 ≤ k →
    tinderref09_Named.l0 k a (pos : Int) = some (decide (1 ≤ a.size) && decide (a.size ≤ 31) && decide (idxFuncFrom odd true a f pos < 0)) := by
  intro j
  induction j with
  | zero =>
    intro pos hp f k _ hk
    obtain ⟨k', rfl⟩ : ∃ k', k = k' + 1 := ⟨k - 1, by omega⟩
    rw [idxFuncFrom_end _ _ _ _ _ (by omega)]
    unfold tinderref09_Named.l0
    rw [if_neg (by omega)]
    by_cases h : 1 ≤ a.size
    · rw [if_pos (by omega)]
      simp [h]
      omega
    · rw [if_neg (by omega)]
      simp [h]
  | succ j ih =>
    intro pos hp f k hf hk
    obtain ⟨k', rfl⟩ : ∃ k', k = k' + 1 := ⟨k - 1, by omega⟩
    obtain ⟨f', rfl⟩ : ∃ f', f = f' + 1 := ⟨f - 1, by omega⟩
    have hlt : pos < a.size := by omega
    have hnext := ih (pos + 1) (by omega) f' k' (by omega) (by omega)
    unfold tinderref09_Named.l0 idxFuncFrom
    rw [if_pos (by omega), if_pos (by omega), if_pos hlt, wrap_next pos (by omega), bt_nat a pos hlt]
    by_cases hasc : (a[pos]'hlt).toNat < 128
    · rw [decode_ascii a pos hlt hasc]
      dsimp only
      generalize (a[pos]'hlt).toNat = b at *
      by_cases c1 : b < 33
      · rw [if_pos (by omega), if_pos (by simp [odd]; omega)]
        rw [decide_eq_false (show ¬ ((pos : Int) < 0) by omega), Bool.and_false]
      · rw [if_neg (by omega)]
        by_cases c2 : 126 < b
        · rw [if_pos (by omega), if_pos (by simp [odd]; omega)]
          rw [decide_eq_false (show ¬ ((pos : Int) < 0) by omega), Bool.and_false]
        · rw [if_neg (by omega)]
          by_cases c3 : 65 ≤ b
          · rw [if_pos (by omega)]
            by_cases c4 : b ≤ 90
            · rw [if_pos (by omega), if_pos (by simp [odd]; omega)]
              rw [decide_eq_false (show ¬ ((pos : Int) < 0) by omega), Bool.and_false]
            · rw [if_neg (by omega), if_neg (by simp [odd]; omega)]
              exact hnext
          · rw [if_neg (by omega), if_neg (by simp [odd]; omega)]
            exact hnext
    · obtain ⟨h1, h2⟩ := decode_high a pos hlt (by omega)
      rw [if_neg (by omega), if_pos (by omega), if_pos (by simp [odd]; omega)]
      rw [decide_eq_false (show ¬ ((pos : Int) < 0) by omega), Bool.and_false]
theorem named_both (a : ByteArray) (ha : a.size ≤ 9223372036854775807) (k : Nat) (hk : a.size + 1 ≤ k) : tinderref09_Named.f k a = dict_Named.f a := by
  unfold tinderref09_Named.f dict_Named.f idxFunc
  exact named_from a ha a.size 0 (by omega) a.size k (Nat.le_refl _) hk
end Go.Proofs.Ytpalbpakeokimaa.PK
