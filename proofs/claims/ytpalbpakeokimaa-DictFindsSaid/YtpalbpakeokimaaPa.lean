/- Plain facts: what the printed prop.Named computes. -/
import Derived.Test.YtpalbpakeokimaaK11
namespace Go.Proofs.Ytpalbpakeokimaa.PK
set_option linter.unusedVariables false
set_option linter.unusedSimpArgs false
open Go.RowKit Go.Proofs.YtpalbpakeokimaaW.PrintWords Go.Proofs.YtpalbpakeokimaaW.PrintLast Go.Proofs.YtpalbpakeokimaaW.PrintMore
/-- a byte that a name may have -/
def okB (b : UInt8) : Bool := decide (33 ≤ b.toNat) && decide (b.toNat ≤ 126) && !(decide (65 ≤ b.toNat) && decide (b.toNat ≤ 90)) && !([47, 92, 58, 91, 93, 64].contains b)
/-- is it a device's or a property's name? -/
def propNamedB (s : ByteArray) : Bool := decide (1 ≤ s.size) && decide (s.size ≤ 31) && s.data.toList.all okB
theorem bt_get (s : ByteArray) (i : Nat) (h : i < s.data.toList.length) : bt s (i : Int) = ((s.data.toList[i]).toNat : Int) := by
  have h' : i < s.size := by simpa using h
  simp [bt, h']
  rfl
theorem indexByte_has (l : List UInt8) (c : UInt8) : decide (0 ≤ Lib.indexByte l c) = l.contains c ∧ -1 ≤ Lib.indexByte l c := by
  induction l with
  | nil => exact ⟨rfl, Int.le_refl _⟩
  | cons b l ih =>
    obtain ⟨h1, h2⟩ := ih
    unfold Lib.indexByte
    by_cases hb : b = c
    · subst hb
      simp
    · have e1 : (b == c) = false := by simpa using hb
      have e2 : (c == b) = false := by simpa using fun h => hb h.symm
      simp only [e1, List.contains_cons, e2, Bool.false_or, ← h1]
      by_cases hm : Lib.indexByte l c = -1
      · rw [hm]
        exact ⟨rfl, by decide⟩
      · have e3 : (Lib.indexByte l c == -1) = false := by simpa using hm
        rw [e3]
        simp only [Bool.false_eq_true, if_false]
        refine ⟨?_, by omega⟩
        by_cases h0 : 0 ≤ Lib.indexByte l c
        · rw [decide_eq_true h0, decide_eq_true (by omega)]
        · omega
theorem named_l0 (s : ByteArray) (hs : s.size ≤ 31) : ∀ (d i : Nat), i + d = s.size → ∀ k, 2 * d + 1 ≤ k → prop_Named.l0 k s (s.size : Int) (i : Int) = some ((s.data.toList.drop i).all okB) := by
  have hl : s.data.toList.length = s.size := by simp
  intro d
  induction d with
  | zero =>
    intro i hi k hk
    obtain ⟨k, rfl⟩ : ∃ m, k = m + 1 := ⟨k - 1, by omega⟩
    simp only [prop_Named.l0]
    rw [if_neg (by omega), List.drop_eq_nil_of_le (by omega)]
    rfl
  | succ d ih =>
    intro i hi k hk
    obtain ⟨k, rfl⟩ : ∃ m, k = m + 2 := ⟨k - 2, by omega⟩
    have hil : i < s.data.toList.length := by omega
    have ih' := ih (i + 1) (by omega) k (by omega)
    rw [List.drop_eq_getElem_cons hil, List.all_cons]
    simp only [prop_Named.l0]
    rw [if_pos (by omega), if_pos (by omega), if_pos (by omega)]
    rw [bt_get s i hil]
    generalize hb : s.data.toList[i] = b
    have hbt := b.toNat_lt
    have hj : prop_Named.j2 (k + 1) s (b.toNat : Int) (s.size : Int) (i : Int) true = some false := by simp only [prop_Named.j2]; rfl
    have hf : prop_Named.j2 (k + 1) s (b.toNat : Int) (s.size : Int) (i : Int) false = if [47, 92, 58, 91, 93, 64].contains b then some false else some ((s.data.toList.drop (i + 1)).all okB) := by
      simp only [prop_Named.j2, strings_IndexByte.f, Option.bind_some]
      have e1 : ((b.toNat : Int).toNat.toUInt8) = b := by simp
      have e2 : wrap64 ((i : Int) + 1) = ((i + 1 : Nat) : Int) := by unfold wrap64; omega
      rw [e1, e2, ih']
      have := (indexByte_has [47, 92, 58, 91, 93, 64] b).1
      simp only [Bool.false_eq_true, if_false]
      by_cases hc : [47, 92, 58, 91, 93, 64].contains b = true
      · rw [if_pos hc, if_pos (by rw [hc] at this; simpa using this)]
      · rw [if_neg hc, if_neg (by intro h; rw [decide_eq_true h] at this; exact hc this.symm)]
    by_cases h1 : (b.toNat : Int) ≤ 32
    · rw [if_pos h1, hj]
      have : okB b = false := by simp [okB]; omega
      rw [this]; rfl
    rw [if_neg h1]
    by_cases h2 : (b.toNat : Int) > 126
    · rw [if_pos h2, hj]
      have : okB b = false := by simp [okB]; omega
      rw [this]; rfl
    rw [if_neg h2]
    have hok : okB b = (!(decide (65 ≤ b.toNat) && decide (b.toNat ≤ 90)) && !([47, 92, 58, 91, 93, 64].contains b)) := by
      unfold okB
      rw [decide_eq_true (show 33 ≤ b.toNat by omega), decide_eq_true (show b.toNat ≤ 126 by omega)]
      rfl
    by_cases h3 : (b.toNat : Int) ≥ 65
    · rw [if_pos h3]
      by_cases h4 : (b.toNat : Int) ≤ 90
      · rw [decide_eq_true h4, hj]
        have : okB b = false := by rw [hok, decide_eq_true (show 65 ≤ b.toNat by omega), decide_eq_true (show b.toNat ≤ 90 by omega)]; rfl
        rw [this]; rfl
      · rw [decide_eq_false h4, hf, hok, decide_eq_false (show ¬ b.toNat ≤ 90 by omega)]
        cases [47, 92, 58, 91, 93, 64].contains b <;> simp
    · rw [if_neg h3, hf, hok, decide_eq_false (show ¬ 65 ≤ b.toNat by omega)]
      cases [47, 92, 58, 91, 93, 64].contains b <;> simp
theorem prop_Named_eq (s : ByteArray) : ∃ k, prop_Named.f k s = some (propNamedB s) := by
  have hl : s.toList.length = s.size := by rw [ByteArray.toList_eq]; simp
  unfold prop_Named.f propNamedB
  by_cases h0 : s.toList = []
  · refine ⟨1, ?_⟩
    rw [if_pos h0]
    have : s.size = 0 := by rw [← hl, h0]; rfl
    simp [prop_Named.j0, this]
  · have h1 : 1 ≤ s.size := by
      rcases Nat.eq_zero_or_pos s.size with h | h
      · exact absurd (List.eq_nil_of_length_eq_zero (hl.trans h)) h0
      · exact h
    by_cases h2 : s.size ≤ 31
    · refine ⟨2 * s.size + 2, ?_⟩
      rw [if_neg h0, decide_eq_false (by omega)]
      simp only [prop_Named.j0, Bool.false_eq_true, if_false]
      have := named_l0 s h2 s.size 0 (by omega) (2 * s.size + 1) (by omega)
      rw [List.drop_zero] at this
      rw [show (0 : Int) = ((0 : Nat) : Int) from rfl, this, decide_eq_true h1, decide_eq_true h2]
      rfl
    · refine ⟨1, ?_⟩
      rw [if_neg h0, decide_eq_true (by omega), decide_eq_false h2]
      simp [prop_Named.j0]
theorem prop_Named_any (s : ByteArray) (w : World) : Calls Try.prog 66 #[.string s] w fun e w' => e = .returned (.bool (propNamedB s)) ∧ Drawn0 w w' := by
  obtain ⟨k, hk⟩ := prop_Named_eq s
  exact prop_Named.calls k s _ w hk
end Go.Proofs.Ytpalbpakeokimaa.PK
