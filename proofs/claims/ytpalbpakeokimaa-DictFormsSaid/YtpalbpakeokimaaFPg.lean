/- tinder: a part of the proof, joined and pruned by wip/tools/prune.py out of: Pg -/
import Derived.Test.YtpalbpakeokimaaFGd
import Derived.Test.YtpalbpakeokimaaFGh
import Derived.Test.YtpalbpakeokimaaFPs
namespace Go.Proofs.Ytpalbpakeokimaa.PK
open Go.RowKit Go.Proofs.YtpalbpakeokimaaW.PrintWords
set_option linter.unusedVariables false
set_option linter.unusedSimpArgs false
theorem sound_le {l : List S57} {m : Int} {k : Nat} (h : dict_Sound.f k l m = some true) : l.length ≤ 256 := by
  unfold dict_Sound.f at h
  by_cases hl : (l.length : Int) > 256
  · rw [if_pos hl] at h; cases h
  · omega
theorem right_j0 (x28 : Bool) (s : ByteArray) (n kd v : Int) (l : List S57) (m : Int) (t : List S92) (k : Nat) (hk : 4 * l.length + 5 ≤ k) (hn : x28 = false → n < (t.length : Int)) :
    ∃ b, dict_right.j0 k m t x28 s n kd v l = some b ∧ (b = true → l.length ≤ 256) := by
  obtain ⟨k', rfl⟩ : ∃ k', k = k' + 1 := ⟨k - 1, by omega⟩
  unfold dict_right.j0
  dsimp only
  cases x28 with
  | true => exact ⟨false, by simp, by simp⟩
  | false =>
    have hn' := hn rfl
    rw [if_neg (by simp)]
    by_cases e2 : kd = 2
    · rw [if_pos e2]
      by_cases ev : v = 0
      · rw [if_pos ev]
        obtain ⟨b, hb, _⟩ := sound_both l m k' (by omega)
        rw [hb]
        refine ⟨b, rfl, fun h => ?_⟩
        subst h
        exact sound_le hb
      · rw [if_neg ev]; exact ⟨false, rfl, by simp⟩
    rw [if_neg e2]
    by_cases e6 : kd = 6
    · rw [if_pos e6]
      by_cases el : (l.length : Int) = 0
      · rw [if_pos el]; exact ⟨_, rfl, fun _ => by omega⟩
      · rw [if_neg el]; exact ⟨false, rfl, by simp⟩
    rw [if_neg e6]
    by_cases e7 : kd = 7
    · rw [if_pos e7]
      by_cases el : (l.length : Int) = 0
      · rw [if_pos el]
        by_cases en : n ≥ 0
        · rw [if_pos en, if_pos (by omega), if_pos hn']; exact ⟨_, rfl, fun _ => by omega⟩
        · rw [if_neg en]; exact ⟨false, rfl, by simp⟩
      · rw [if_neg el]; exact ⟨false, rfl, by simp⟩
    rw [if_neg e7]
    have hl0 : ((l.length : Int) == 0) = true → l.length ≤ 256 := fun h => by have := beq_iff_eq.1 h; omega
    by_cases e3 : kd = 3
    · rw [if_pos e3]; exact ⟨_, rfl, hl0⟩
    rw [if_neg e3]
    by_cases e4 : kd = 4
    · rw [if_pos e4]; exact ⟨_, rfl, hl0⟩
    rw [if_neg e4]
    by_cases e5 : kd = 5
    · rw [if_pos e5]; exact ⟨_, rfl, hl0⟩
    rw [if_neg e5]
    exact ⟨false, rfl, by simp⟩
theorem right_tot (s : ByteArray) (n kd v : Int) (l : List S57) (m : Int) (t : List S92) (k : Nat) (hk : 4 * l.length + 5 ≤ k) : ∃ b, dict_right.f k s n kd v l m t = some b ∧ (b = true → l.length ≤ 256) := by
  unfold dict_right.f
  have d := right_j0 (decide (n ≥ (t.length : Int))) s n kd v l m t k hk (fun h => by have := of_decide_eq_false h; omega)
  have e := right_j0 true s n kd v l m t k hk (fun h => by cases h)
  by_cases h0 : s.toList = ([] : List UInt8)
  · rw [if_pos h0]
    by_cases h1 : n < -1
    · rw [if_pos h1]; exact e
    · rw [if_neg h1]; exact d
  · rw [if_neg h0]
    unfold dict_Named.f
    simp only [Option.bind_some]
    split
    · by_cases h1 : n < -1
      · rw [if_pos h1]; exact e
      · rw [if_neg h1]; exact d
    · exact e
theorem rightO_tot (n : Int) (t : List S92) (x : S45) : ∃ b, rightO n t x = some b ∧ (b = true → x.f4.length ≤ 256) := by
  obtain ⟨b, hb, h⟩ := right_tot x.f0 x.f1 x.f2 x.f3 x.f4 n t (4 * x.f4.length + 5) (Nat.le_refl _)
  exact ⟨b, anyK_of (fun j => dict_right.mono _ _ _ _ _ _ _ j) hb, h⟩
theorem living_tot (l : List S80) (n : Int) : ∃ b, dict_living.f l n = some b ∧ (b = true → 0 ≤ n ∧ n < (l.length : Int)) := by
  unfold dict_living.f
  by_cases h0 : n ≥ 0
  · rw [if_pos h0]
    by_cases h1 : n < (l.length : Int)
    · rw [if_pos h1, if_pos (by omega)]; exact ⟨_, rfl, fun _ => ⟨by omega, h1⟩⟩
    · rw [if_neg h1]; exact ⟨false, rfl, by simp⟩
  · rw [if_neg h0]; exact ⟨false, rfl, by simp⟩
def goodInst (l : List S80) (x : S80) : Prop := (x.f1 = -1 ∨ (0 ≤ x.f1 ∧ x.f1 < (l.length : Int))) ∧ x.f3.length ≤ 16
theorem rd92_mem {t : List S92} {n : Int} (h0 : 0 ≤ n) (h1 : n < (t.length : Int)) : rd_T92 t n ∈ t := by
  unfold rd_T92
  rw [List.getD_eq_getElem?_getD, List.getElem?_eq_getElem (show n.toNat < t.length by omega)]
  exact List.getElem_mem _
theorem instRight_tot (l : List S80) (x : S80) (t : List S92) (ht : ∀ y ∈ t, y.f4.length ≤ 16) : ∃ b, dict_instRight.f l x.f0 x.f1 x.f2 x.f3 t = some b ∧ (b = true → goodInst l x) := by
  unfold dict_instRight.f goodInst
  by_cases h0 : x.f0 = -1
  · rw [if_pos h0]
    by_cases h1 : x.f1 = -1
    · rw [if_pos h1]
      by_cases h2 : x.f2.toList = ([] : List UInt8)
      · rw [if_pos h2]; exact ⟨_, rfl, fun h => ⟨.inl h1, by have := beq_iff_eq.1 h; omega⟩⟩
      · rw [if_neg h2]; exact ⟨false, rfl, by simp⟩
    · rw [if_neg h1]; exact ⟨false, rfl, by simp⟩
  rw [if_neg h0]
  by_cases h1 : x.f0 ≥ 0
  · rw [if_pos h1]
    by_cases h2 : x.f0 < (t.length : Int)
    · rw [if_pos h2, if_pos (by omega)]
      have hm := ht _ (rd92_mem (by omega) h2)
      by_cases h3 : (x.f3.length : Int) = ((rd_T92 t x.f0).f4.length : Int)
      · rw [if_pos h3]
        by_cases h4 : (x.f2.size : Int) ≤ 256
        · rw [if_pos h4]
          unfold strings_Contains.f
          rw [if_pos rfl]
          simp only [Option.bind_some]
          split
          · exact ⟨false, rfl, by simp⟩
          · by_cases h5 : x.f1 = -1
            · rw [if_pos h5]; exact ⟨true, rfl, fun _ => ⟨.inl h5, by omega⟩⟩
            · rw [if_neg h5]
              obtain ⟨b, hb, hbt⟩ := living_tot l x.f1
              rw [hb]
              exact ⟨b, rfl, fun h => ⟨.inr (hbt h), by omega⟩⟩
        · rw [if_neg h4]; exact ⟨false, rfl, by simp⟩
      · rw [if_neg h3]; exact ⟨false, rfl, by simp⟩
    · rw [if_neg h2]; exact ⟨false, rfl, by simp⟩
  · rw [if_neg h1]; exact ⟨false, rfl, by simp⟩
theorem wrapn (i : Nat) (h : i < 9223372036854775807) : wrap64 ((i : Int) + 1) = ((i + 1 : Nat) : Int) := by
  unfold wrap64
  omega
theorem rd80_get {l : List S80} {n : Int} (h0 : 0 ≤ n) (h1 : n < (l.length : Int)) : rd_T80 l n ∈ l := by
  unfold rd_T80
  rw [List.getD_eq_getElem?_getD, List.getElem?_eq_getElem (show n.toNat < l.length by omega)]
  exact List.getElem_mem _
theorem treeB_at {l : List S92} (h : treeB l = true) {x : S92} (hx : x ∈ l) : ∃ i, nodeX (l.take i) i x = true := by
  unfold treeB at h
  simp only [Bool.and_eq_true] at h
  obtain ⟨i, hi, hxi⟩ := List.mem_iff_getElem.1 hx
  have h1 := List.all_eq_true.1 h.2 i (List.mem_range.2 hi)
  unfold nodeOK at h1
  rw [List.getD_eq_getElem?_getD, List.getElem?_eq_getElem hi] at h1
  exact ⟨i, by rw [← hxi]; exact h1⟩
theorem nodeX_le {pre : List S92} {i : Nat} {x : S92} (h : nodeX pre i x = true) : x.f4.length ≤ 16 ∧ x.f1.length ≤ 4 ∧ x.f3.length ≤ 16 ∧ ∀ p ∈ x.f3, p.f1.length ≤ 256 := by
  unfold nodeX at h
  simp only [Bool.and_eq_true, decide_eq_true_eq] at h
  obtain ⟨h1, h2, h3⟩ := h
  unfold propsB at h2
  simp only [Bool.and_eq_true, decide_eq_true_eq] at h2
  refine ⟨h1, ?_, h2.1, fun p hp => ?_⟩
  · by_cases e : i = 0
    · rw [if_pos e] at h3
      simp only [Bool.and_eq_true, decide_eq_true_eq] at h3
      omega
    · rw [if_neg e] at h3
      simp only [Bool.and_eq_true, decide_eq_true_eq] at h3
      omega
  · obtain ⟨j, hj, hpj⟩ := List.mem_iff_getElem.1 hp
    have h4 := List.all_eq_true.1 h2.2 j (List.mem_range.2 hj)
    unfold propOK at h4
    rw [List.getD_eq_getElem?_getD, List.getElem?_eq_getElem hj] at h4
    simp only [Bool.and_eq_true, decide_eq_true_eq, Option.getD_some] at h4
    rw [hpj] at h4
    exact h4.1.2
end Go.Proofs.Ytpalbpakeokimaa.PK
