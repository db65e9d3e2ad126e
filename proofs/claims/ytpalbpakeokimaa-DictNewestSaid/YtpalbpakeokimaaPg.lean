/- What is formed, in plain words: every check ends, and what is formed is bounded. -/
import Derived.Test.YtpalbpakeokimaaGd
import Derived.Test.YtpalbpakeokimaaGh
import Derived.Test.YtpalbpakeokimaaPs
namespace Go.Proofs.Ytpalbpakeokimaa.PK
open Go.RowKit Go.Proofs.YtpalbpakeokimaaW.PrintWords
set_option linter.unusedVariables false
set_option linter.unusedSimpArgs false
theorem sound_le {l : List S57} {m : Int} {k : Nat} (h : dict_Sound.f k l m = some true) : l.length ≤ 256 := by
  unfold dict_Sound.f at h
  by_cases hl : (l.length : Int) > 256
  · rw [if_pos hl] at h; cases h
  · omega
theorem right_j0 (x28 : Bool) (s : ByteArray) (n kd v : Int) (l : List S57) (m : Int) (t : List S92) (k : Nat) (hk : 4 * l.length + 5 ≤ k) (hn : x28 = false → n < (t.length : Int)) :
    ∃ b, dict_right.j0 k m t x28 s n kd v l = some b ∧ (b = true → l.length ≤ 256) := by
  obtain ⟨k', rfl⟩ : ∃ k', k = k' + 1 := ⟨k - 1, by omega⟩
  unfold dict_right.j0
  dsimp only
  cases x28 with
  | true => exact ⟨false, by simp, by simp⟩
  | false =>
    have hn' := hn rfl
    rw [if_neg (by simp)]
    by_cases e2 : kd = 2
    · rw [if_pos e2]
      by_cases ev : v = 0
      · rw [if_pos ev]
        obtain ⟨b, hb, _⟩ := sound_both l m k' (by omega)
        rw [hb]
        refine ⟨b, rfl, fun h => ?_⟩
        subst h
        exact sound_le hb
      · rw [if_neg ev]; exact ⟨false, rfl, by simp⟩
    rw [if_neg e2]
    by_cases e6 : kd = 6
    · rw [if_pos e6]
      by_cases el : (l.length : Int) = 0
      · rw [if_pos el]; exact ⟨_, rfl, fun _ => by omega⟩
      · rw [if_neg el]; exact ⟨false, rfl, by simp⟩
    rw [if_neg e6]
    by_cases e7 : kd = 7
    · rw [if_pos e7]
      by_cases el : (l.length : Int) = 0
      · rw [if_pos el]
        by_cases en : n ≥ 0
        · rw [if_pos en, if_pos (by omega), if_pos hn']; exact ⟨_, rfl, fun _ => by omega⟩
        · rw [if_neg en]; exact ⟨false, rfl, by simp⟩
      · rw [if_neg el]; exact ⟨false, rfl, by simp⟩
    rw [if_neg e7]
    have hl0 : ((l.length : Int) == 0) = true → l.length ≤ 256 := fun h => by have := beq_iff_eq.1 h; omega
    by_cases e3 : kd = 3
    · rw [if_pos e3]; exact ⟨_, rfl, hl0⟩
    rw [if_neg e3]
    by_cases e4 : kd = 4
    · rw [if_pos e4]; exact ⟨_, rfl, hl0⟩
    rw [if_neg e4]
    by_cases e5 : kd = 5
    · rw [if_pos e5]; exact ⟨_, rfl, hl0⟩
    rw [if_neg e5]
    exact ⟨false, rfl, by simp⟩
theorem right_tot (s : ByteArray) (n kd v : Int) (l : List S57) (m : Int) (t : List S92) (k : Nat) (hk : 4 * l.length + 5 ≤ k) : ∃ b, dict_right.f k s n kd v l m t = some b ∧ (b = true → l.length ≤ 256) := by
  unfold dict_right.f
  have d := right_j0 (decide (n ≥ (t.length : Int))) s n kd v l m t k hk (fun h => by have := of_decide_eq_false h; omega)
  have e := right_j0 true s n kd v l m t k hk (fun h => by cases h)
  by_cases h0 : s.toList = ([] : List UInt8)
  · rw [if_pos h0]
    by_cases h1 : n < -1
    · rw [if_pos h1]; exact e
    · rw [if_neg h1]; exact d
  · rw [if_neg h0]
    unfold dict_Named.f
    simp only [Option.bind_some]
    split
    · by_cases h1 : n < -1
      · rw [if_pos h1]; exact e
      · rw [if_neg h1]; exact d
    · exact e
theorem rightO_tot (n : Int) (t : List S92) (x : S45) : ∃ b, rightO n t x = some b ∧ (b = true → x.f4.length ≤ 256) := by
  obtain ⟨b, hb, h⟩ := right_tot x.f0 x.f1 x.f2 x.f3 x.f4 n t (4 * x.f4.length + 5) (Nat.le_refl _)
  exact ⟨b, anyK_of (fun j => dict_right.mono _ _ _ _ _ _ _ j) hb, h⟩
theorem words_tot (l0 l1 : List Int) (l2 : List S45) (l3 : List Int) (a4 : Int) (l5 : List S92) (a6 : Int) (l7 : List S80) (a8 : Int) (a9 : ByteArray) :
    ∃ b, dict_wordsRight.f l0 l1 l2 l3 a4 l5 a6 l7 a8 a9 = some b ∧ (b = true → l2.length ≤ 640 ∧ ∀ x ∈ l2, x.f4.length ≤ 256) := by
  unfold dict_wordsRight.f
  by_cases h : 640 < l2.length ∨ l2.length < 111
  · rw [if_pos h]; exact ⟨false, rfl, by simp⟩
  rw [if_neg h]
  by_cases hok : okAll l2 = true
  · rw [if_pos hok]
    unfold restO
    rw [if_pos (List.all_eq_true.2 (fun x _ => by obtain ⟨b, hb, _⟩ := rightO_tot (l2.length : Int) l5 x; rw [hb]; rfl))]
    refine ⟨_, rfl, fun hb => ⟨by omega, fun x hx => ?_⟩⟩
    rw [Bool.not_eq_true', List.any_eq_false] at hb
    rw [← List.take_append_drop 111 l2] at hx
    rcases List.mem_append.1 hx with hx | hx
    · obtain ⟨i, hi, hxi⟩ := List.mem_iff_getElem.1 hx
      rw [List.getElem_take] at hxi
      have hi' : i < 111 ∧ i < l2.length := by rw [List.length_take] at hi; omega
      have h1 := List.all_eq_true.1 hok ⟨i, hi'.1⟩ (List.mem_finRange _)
      have h2 : l2.getD i z45 = x := by rw [List.getD_eq_getElem?_getD, List.getElem?_eq_getElem hi'.2]; exact hxi
      rw [h2] at h1
      unfold okW at h1
      simp only [Bool.and_eq_true, decide_eq_true_eq] at h1
      omega
    · have h1 := hb x hx
      obtain ⟨b, hb2, h3⟩ := rightO_tot (l2.length : Int) l5 x
      rw [hb2] at h1
      cases b with
      | true => exact h3 rfl
      | false => exact absurd rfl h1
  · rw [if_neg hok]; exact ⟨false, rfl, by simp⟩
theorem living_tot (l : List S80) (n : Int) : ∃ b, dict_living.f l n = some b ∧ (b = true → 0 ≤ n ∧ n < (l.length : Int)) := by
  unfold dict_living.f
  by_cases h0 : n ≥ 0
  · rw [if_pos h0]
    by_cases h1 : n < (l.length : Int)
    · rw [if_pos h1, if_pos (by omega)]; exact ⟨_, rfl, fun _ => ⟨by omega, h1⟩⟩
    · rw [if_neg h1]; exact ⟨false, rfl, by simp⟩
  · rw [if_neg h0]; exact ⟨false, rfl, by simp⟩
/-- an instance whose parent there is, and whose cells are few -/
def goodInst (l : List S80) (x : S80) : Prop := (x.f1 = -1 ∨ (0 ≤ x.f1 ∧ x.f1 < (l.length : Int))) ∧ x.f3.length ≤ 16
theorem rd92_mem {t : List S92} {n : Int} (h0 : 0 ≤ n) (h1 : n < (t.length : Int)) : rd_T92 t n ∈ t := by
  unfold rd_T92
  rw [List.getD_eq_getElem?_getD, List.getElem?_eq_getElem (show n.toNat < t.length by omega)]
  exact List.getElem_mem _
theorem instRight_tot (l : List S80) (x : S80) (t : List S92) (ht : ∀ y ∈ t, y.f4.length ≤ 16) : ∃ b, dict_instRight.f l x.f0 x.f1 x.f2 x.f3 t = some b ∧ (b = true → goodInst l x) := by
  unfold dict_instRight.f goodInst
  by_cases h0 : x.f0 = -1
  · rw [if_pos h0]
    by_cases h1 : x.f1 = -1
    · rw [if_pos h1]
      by_cases h2 : x.f2.toList = ([] : List UInt8)
      · rw [if_pos h2]; exact ⟨_, rfl, fun h => ⟨.inl h1, by have := beq_iff_eq.1 h; omega⟩⟩
      · rw [if_neg h2]; exact ⟨false, rfl, by simp⟩
    · rw [if_neg h1]; exact ⟨false, rfl, by simp⟩
  rw [if_neg h0]
  by_cases h1 : x.f0 ≥ 0
  · rw [if_pos h1]
    by_cases h2 : x.f0 < (t.length : Int)
    · rw [if_pos h2, if_pos (by omega)]
      have hm := ht _ (rd92_mem (by omega) h2)
      by_cases h3 : (x.f3.length : Int) = ((rd_T92 t x.f0).f4.length : Int)
      · rw [if_pos h3]
        by_cases h4 : (x.f2.size : Int) ≤ 256
        · rw [if_pos h4]
          unfold strings_Contains.f
          rw [if_pos rfl]
          simp only [Option.bind_some]
          split
          · exact ⟨false, rfl, by simp⟩
          · by_cases h5 : x.f1 = -1
            · rw [if_pos h5]; exact ⟨true, rfl, fun _ => ⟨.inl h5, by omega⟩⟩
            · rw [if_neg h5]
              obtain ⟨b, hb, hbt⟩ := living_tot l x.f1
              rw [hb]
              exact ⟨b, rfl, fun h => ⟨.inr (hbt h), by omega⟩⟩
        · rw [if_neg h4]; exact ⟨false, rfl, by simp⟩
      · rw [if_neg h3]; exact ⟨false, rfl, by simp⟩
    · rw [if_neg h2]; exact ⟨false, rfl, by simp⟩
  · rw [if_neg h1]; exact ⟨false, rfl, by simp⟩
theorem wrapn (i : Nat) (h : i < 9223372036854775807) : wrap64 ((i : Int) + 1) = ((i + 1 : Nat) : Int) := by
  unfold wrap64
  omega
theorem rd80_get {l : List S80} {n : Int} (h0 : 0 ≤ n) (h1 : n < (l.length : Int)) : rd_T80 l n ∈ l := by
  unfold rd_T80
  rw [List.getD_eq_getElem?_getD, List.getElem?_eq_getElem (show n.toNat < l.length by omega)]
  exact List.getElem_mem _
theorem ends_tot (l : List S80) (hl : l.length ≤ 16) (hg : ∀ x ∈ l, goodInst l x) : ∀ (d i : Nat), i + d = l.length + 1 → ∀ (p : Int), (p = -1 ∨ (0 ≤ p ∧ p < (l.length : Int))) → ∀ k, d + 1 ≤ k → ∃ b, dict_ends.l0 k l p ((l.length + 1 : Nat) : Int) (i : Int) = some b := by
  intro d
  induction d with
  | zero =>
    intro i hi p hp k hk
    obtain ⟨k', rfl⟩ : ∃ k', k = k' + 1 := ⟨k - 1, by omega⟩
    unfold dict_ends.l0
    rw [if_neg (by omega)]
    exact ⟨_, rfl⟩
  | succ d ih =>
    intro i hi p hp k hk
    obtain ⟨k', rfl⟩ : ∃ k', k = k' + 1 := ⟨k - 1, by omega⟩
    unfold dict_ends.l0
    rw [if_pos (by omega)]
    by_cases hp1 : p = -1
    · rw [if_pos hp1]; exact ⟨_, rfl⟩
    · rw [if_neg hp1, if_pos (by omega), if_pos (by omega), wrapn i (by omega)]
      exact ih (i + 1) (by omega) _ ((hg _ (rd80_get (by omega) (by omega))).1) k' (by omega)
theorem insts_l1 (l : List S80) (hl : l.length ≤ 16) (hg : ∀ x ∈ l, goodInst l x) (l0 l1 : List Int) (l2 : List S45) (l3 : List Int) (a4 : Int) (l5 : List S92) (a6 a8 : Int) (a9 : ByteArray) : ∀ (d i : Nat), i + d = l.length → ∀ k, d + 20 ≤ k →
    ∃ b, dict_instsRight.l1 k (l.length : Int) (i : Int) l0 l1 l2 l3 a4 l5 a6 l a8 a9 = some b := by
  intro d
  induction d with
  | zero =>
    intro i hi k hk
    obtain ⟨k', rfl⟩ : ∃ k', k = k' + 1 := ⟨k - 1, by omega⟩
    unfold dict_instsRight.l1
    rw [if_neg (by omega)]
    exact ⟨_, rfl⟩
  | succ d ih =>
    intro i hi k hk
    obtain ⟨k', rfl⟩ : ∃ k', k = k' + 1 := ⟨k - 1, by omega⟩
    unfold dict_instsRight.l1
    rw [if_pos (by omega)]
    have hw : wrap64 ((l.length : Int) + 1) = ((l.length + 1 : Nat) : Int) := wrapn _ (by omega)
    obtain ⟨b, hb⟩ := ends_tot l hl hg (l.length + 1) 0 (by omega) (i : Int) (.inr ⟨by omega, by omega⟩) k' (by omega)
    have hb' : dict_ends.f k' l (i : Int) = some b := by unfold dict_ends.f; rw [hw]; exact hb
    rw [hb']
    cases b with
    | false => exact ⟨false, rfl⟩
    | true =>
      rw [Option.bind_some, if_pos rfl, wrapn i (by omega)]
      exact ih (i + 1) (by omega) k' (by omega)
theorem insts_l0 (l : List S80) (hl : l.length ≤ 16) (l0 l1 : List Int) (l2 : List S45) (l3 : List Int) (a4 : Int) (l5 : List S92) (ht : ∀ y ∈ l5, y.f4.length ≤ 16) (a6 a8 : Int) (a9 : ByteArray) : ∀ (d i : Nat), i + d = l.length → (∀ x ∈ l.take i, goodInst l x) → ∀ k, d + 40 ≤ k →
    ∃ b, dict_instsRight.l0 k l (l.length : Int) (i : Int) l0 l1 l2 l3 a4 l5 a6 l a8 a9 = some b ∧ (b = true → ∀ x ∈ l, goodInst l x) := by
  intro d
  induction d with
  | zero =>
    intro i hi hg k hk
    obtain ⟨k', rfl⟩ : ∃ k', k = k' + 1 := ⟨k - 1, by omega⟩
    unfold dict_instsRight.l0
    rw [if_neg (by omega)]
    have hg' : ∀ x ∈ l, goodInst l x := by rw [List.take_of_length_le (by omega)] at hg; exact hg
    obtain ⟨b, hb⟩ := insts_l1 l hl hg' l0 l1 l2 l3 a4 l5 a6 a8 a9 l.length 0 (by omega) k' (by omega)
    exact ⟨b, hb, fun _ => hg'⟩
  | succ d ih =>
    intro i hi hg k hk
    obtain ⟨k', rfl⟩ : ∃ k', k = k' + 1 := ⟨k - 1, by omega⟩
    unfold dict_instsRight.l0
    rw [if_pos (by omega), if_pos (by omega), if_pos (by omega)]
    obtain ⟨b, hb, hbt⟩ := instRight_tot l (rd_T80 l (i : Int)) l5 ht
    rw [hb]
    cases b with
    | false => exact ⟨false, rfl, by simp⟩
    | true =>
      rw [Option.bind_some, if_pos rfl, wrapn i (by omega)]
      refine ih (i + 1) (by omega) (fun x hx => ?_) k' (by omega)
      rw [List.take_succ_eq_append_getElem (by omega)] at hx
      rcases List.mem_append.1 hx with hx | hx
      · exact hg x hx
      · have e : rd_T80 l (i : Int) = l[i]'(by omega) := by
          unfold rd_T80
          rw [List.getD_eq_getElem?_getD, show ((i : Int)).toNat = i from by omega, List.getElem?_eq_getElem (show i < l.length by omega)]
          rfl
        rw [List.mem_singleton.1 hx, ← e]
        exact hbt rfl
theorem insts_tot (l0 l1 : List Int) (l2 : List S45) (l3 : List Int) (a4 : Int) (l5 : List S92) (a6 : Int) (l7 : List S80) (a8 : Int) (a9 : ByteArray) (ht : ∀ y ∈ l5, y.f4.length ≤ 16) :
    ∃ b, (anyK fun k => dict_instsRight.f k l0 l1 l2 l3 a4 l5 a6 l7 a8 a9) = some b ∧ (b = true → l7.length ≤ 16 ∧ ∀ x ∈ l7, x.f3.length ≤ 16) := by
  have key : ∃ b, dict_instsRight.f (63 + 1) l0 l1 l2 l3 a4 l5 a6 l7 a8 a9 = some b ∧ (b = true → l7.length ≤ 16 ∧ ∀ x ∈ l7, x.f3.length ≤ 16) := by
    have hj : ∀ x22, (x22 = false → l7.length ≤ 16) → ∃ b, dict_instsRight.j0 (63 + 1) x22 l0 l1 l2 l3 a4 l5 a6 l7 a8 a9 = some b ∧ (b = true → l7.length ≤ 16 ∧ ∀ x ∈ l7, x.f3.length ≤ 16) := by
      intro x22 hx
      unfold dict_instsRight.j0
      dsimp only
      cases x22 with
      | true => exact ⟨false, rfl, by simp⟩
      | false =>
        rw [if_neg (by simp)]
        obtain ⟨b, hb, hbt⟩ := insts_l0 l7 (hx rfl) l0 l1 l2 l3 a4 l5 ht a6 a8 a9 l7.length 0 (by omega) (by simp) 63 (by have := hx rfl; omega)
        exact ⟨b, hb, fun h => ⟨hx rfl, fun x hm => (hbt h x hm).2⟩⟩
    unfold dict_instsRight.f
    by_cases h0 : (l7.length : Int) > 16
    · rw [if_pos h0]; exact hj true (fun h => by cases h)
    · rw [if_neg h0]
      by_cases h1 : a8 = -1
      · rw [if_pos h1]; exact hj false (fun _ => by omega)
      · rw [if_neg h1]
        obtain ⟨b, hb, _⟩ := living_tot l7 a8
        rw [hb]
        exact hj (!b) (fun _ => by omega)
  obtain ⟨b, hb, h⟩ := key
  exact ⟨b, anyK_of (fun j => dict_instsRight.mono _ _ _ _ _ _ _ _ _ _ j) hb, h⟩
theorem treeB_at {l : List S92} (h : treeB l = true) {x : S92} (hx : x ∈ l) : ∃ i, nodeX (l.take i) i x = true := by
  unfold treeB at h
  simp only [Bool.and_eq_true] at h
  obtain ⟨i, hi, hxi⟩ := List.mem_iff_getElem.1 hx
  have h1 := List.all_eq_true.1 h.2 i (List.mem_range.2 hi)
  unfold nodeOK at h1
  rw [List.getD_eq_getElem?_getD, List.getElem?_eq_getElem hi] at h1
  exact ⟨i, by rw [← hxi]; exact h1⟩
theorem nodeX_le {pre : List S92} {i : Nat} {x : S92} (h : nodeX pre i x = true) : x.f4.length ≤ 16 ∧ x.f1.length ≤ 4 ∧ x.f3.length ≤ 16 ∧ ∀ p ∈ x.f3, p.f1.length ≤ 256 := by
  unfold nodeX at h
  simp only [Bool.and_eq_true, decide_eq_true_eq] at h
  obtain ⟨h1, h2, h3⟩ := h
  unfold propsB at h2
  simp only [Bool.and_eq_true, decide_eq_true_eq] at h2
  refine ⟨h1, ?_, h2.1, fun p hp => ?_⟩
  · by_cases e : i = 0
    · rw [if_pos e] at h3
      simp only [Bool.and_eq_true, decide_eq_true_eq] at h3
      omega
    · rw [if_neg e] at h3
      simp only [Bool.and_eq_true, decide_eq_true_eq] at h3
      omega
  · obtain ⟨j, hj, hpj⟩ := List.mem_iff_getElem.1 hp
    have h4 := List.all_eq_true.1 h2.2 j (List.mem_range.2 hj)
    unfold propOK at h4
    rw [List.getD_eq_getElem?_getD, List.getElem?_eq_getElem hj] at h4
    simp only [Bool.and_eq_true, decide_eq_true_eq, Option.getD_some] at h4
    rw [hpj] at h4
    exact h4.1.2
theorem treeB_fits {l : List S92} (h : treeB l = true) : treeFits l = true := by
  have hl : l.length ≤ 32 := by
    unfold treeB at h
    simp only [Bool.and_eq_true, decide_eq_true_eq] at h
    exact h.1.2
  unfold treeFits
  simp only [Bool.and_eq_true, decide_eq_true_eq]
  refine ⟨by omega, List.all_eq_true.2 fun x hx => ?_⟩
  obtain ⟨i, hi⟩ := treeB_at h hx
  obtain ⟨h1, h2, h3, h4⟩ := nodeX_le hi
  unfold nodeFits
  simp only [Bool.and_eq_true, decide_eq_true_eq]
  refine ⟨⟨⟨by omega, by omega⟩, by omega⟩, List.all_eq_true.2 fun p hp => ?_⟩
  have := h4 p hp
  unfold propFits
  simp only [decide_eq_true_eq]
  omega
/-- the check of a machine ends; a formed machine can be copied, and has few words -/
theorem formed_tot (l0 l1 : List Int) (l2 : List S45) (l3 : List Int) (a4 : Int) (l5 : List S92) (a6 : Int) (l7 : List S80) (a8 : Int) (a9 : ByteArray) :
    ∃ b, dict_Formed.f l0 l1 l2 l3 a4 l5 a6 l7 a8 a9 = some b ∧ (b = true → machFits l0 l1 l2 l3 l5 l7 = true ∧ l2.length ≤ 640) := by
  unfold dict_Formed.f
  by_cases c0 : (decide (64 < (l0.length : Int))) = true
  · rw [if_pos c0]; exact ⟨false, rfl, by simp⟩
  rw [if_neg c0]
  by_cases c1 : (decide (4096 < (l1.length : Int))) = true
  · rw [if_pos c1]; exact ⟨false, rfl, by simp⟩
  rw [if_neg c1]
  by_cases c2 : (decide (1024 < (a9.size : Int))) = true
  · rw [if_pos c2]; exact ⟨false, rfl, by simp⟩
  rw [if_neg c2]
  by_cases c3 : (decide (2048 < (l3.length : Int))) = true
  · rw [if_pos c3]; exact ⟨false, rfl, by simp⟩
  rw [if_neg c3]
  by_cases c4 : (decide (a4 < 2)) = true
  · rw [if_pos c4]; exact ⟨false, rfl, by simp⟩
  rw [if_neg c4]
  by_cases c5 : (decide (36 < a4)) = true
  · rw [if_pos c5]; exact ⟨false, rfl, by simp⟩
  rw [if_neg c5]
  by_cases c6 : (!(treeB l5)) = true
  · rw [if_pos c6]; exact ⟨false, rfl, by simp⟩
  rw [if_neg c6]
  by_cases c7 : (decide (a6 < -1)) = true
  · rw [if_pos c7]; exact ⟨false, rfl, by simp⟩
  rw [if_neg c7]
  by_cases c8 : (decide (a6 ≥ (l5.length : Int))) = true
  · rw [if_pos c8]; exact ⟨false, rfl, by simp⟩
  rw [if_neg c8]
  have ht : treeB l5 = true := by simpa using c6
  obtain ⟨b, hb, hbt⟩ := insts_tot l0 l1 l2 l3 a4 l5 a6 l7 a8 a9 (fun y hy => by obtain ⟨i, hi⟩ := treeB_at ht hy; exact (nodeX_le hi).1)
  rw [hb, Option.bind_some]
  cases b with
  | false => exact ⟨false, rfl, by simp⟩
  | true =>
    rw [if_pos rfl]
    obtain ⟨c, hc, hct⟩ := words_tot l0 l1 l2 l3 a4 l5 a6 l7 a8 a9
    rw [hc, Option.bind_some]
    cases c with
    | false => exact ⟨false, rfl, by simp⟩
    | true =>
      rw [if_pos rfl]
      refine ⟨_, rfl, fun _ => ?_⟩
      obtain ⟨g1, g2⟩ := hbt rfl
      obtain ⟨g3, g4⟩ := hct rfl
      simp only [decide_eq_true_eq] at c0 c1 c3
      refine ⟨?_, g3⟩
      unfold machFits
      simp only [Bool.and_eq_true, decide_eq_true_eq]
      refine ⟨⟨⟨⟨⟨⟨⟨by omega, by omega⟩, by omega⟩, by omega⟩, List.all_eq_true.2 fun x hx => ?_⟩, by omega⟩, List.all_eq_true.2 fun x hx => ?_⟩, treeB_fits ht⟩
      · have := g4 x hx
        unfold opsFits
        simp only [decide_eq_true_eq]
        omega
      · have := g2 x hx
        unfold cellsFits
        simp only [decide_eq_true_eq]
        omega
end Go.Proofs.Ytpalbpakeokimaa.PK
