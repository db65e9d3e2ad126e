/- tinder: a part of the proof, joined and pruned by wip/tools/prune.py out of: Pq -/
import Derived.Test.YtpalbpakeokimaaFGrf
import Derived.Test.YtpalbpakeokimaaFPg
namespace Go.Proofs.Ytpalbpakeokimaa.PK
open Go.RowKit Go.Proofs.YtpalbpakeokimaaW.PrintWords
set_option linter.unusedVariables false
set_option linter.unusedSimpArgs false
theorem pigeon : ∀ (n : Nat) (g : Nat → Nat) (m : Nat), (∀ j, j < m → g j < n) → (∀ a b, a < m → b < m → g a = g b → a = b) → m ≤ n := by
  intro n
  induction n with
  | zero =>
    intro g m h _
    cases m with
    | zero => exact Nat.le_refl _
    | succ m => exact absurd (h 0 (by omega)) (Nat.not_lt_zero _)
  | succ n ih =>
    intro g m h hi
    by_cases hj : ∃ j, j < m ∧ g j = n
    · obtain ⟨j, hjm, hjn⟩ := hj
      have := ih (fun i => if i < j then g i else g (i + 1)) (m - 1) (fun i him => by
        show (if i < j then g i else g (i + 1)) < n
        split
        · have h1 := h i (by omega)
          have h2 : g i ≠ n := fun e => by have := hi i j (by omega) hjm (e.trans hjn.symm); omega
          omega
        · have h1 := h (i + 1) (by omega)
          have h2 : g (i + 1) ≠ n := fun e => by have := hi (i + 1) j (by omega) hjm (e.trans hjn.symm); omega
          omega) (fun a b ha hb hab => by
        split at hab <;> split at hab
        · exact hi a b (by omega) (by omega) hab
        · have := hi a (b + 1) (by omega) (by omega) hab; omega
        · have := hi (a + 1) b (by omega) (by omega) hab; omega
        · have := hi (a + 1) (b + 1) (by omega) (by omega) hab; omega)
      omega
    · have := ih g m (fun i him => by
        have h1 := h i him
        have h2 : g i ≠ n := fun e => hj ⟨i, him, e⟩
        omega) hi
      omega
def iterP (l : List S80) : Nat → Int → Int
  | 0, a => a
  | k + 1, a => iterP l k (rd_T80 l a).f1
theorem iterP_add (l : List S80) (r : Nat) : ∀ (x : Nat) (a : Int), iterP l (x + r) a = iterP l r (iterP l x a) := by
  intro x
  induction x with
  | zero => intro a; rw [Nat.zero_add]; rfl
  | succ x ih => intro a; rw [Nat.succ_add]; exact ih _
theorem chainR_true (l : List S80) : ∀ (n : Nat) (a : Int), chainR l n a = true → ∃ k, k < n ∧ iterP l k a < 0 ∧ ∀ j, j < k → 0 ≤ iterP l j a := by
  intro n
  induction n with
  | zero => intro a h; cases h
  | succ n ih =>
    intro a h
    by_cases ha : a < 0
    · exact ⟨0, by omega, ha, fun j hj => absurd hj (Nat.not_lt_zero _)⟩
    · rw [chainR_next _ _ _ ha] at h
      obtain ⟨k, h1, h2, h3⟩ := ih _ h
      refine ⟨k + 1, by omega, h2, fun j hj => ?_⟩
      cases j with
      | zero => show 0 ≤ a; omega
      | succ j => exact h3 j (by omega)
theorem chainR_of (l : List S80) : ∀ (n : Nat) (k : Nat) (a : Int), k < n → iterP l k a < 0 → (∀ j, j < k → 0 ≤ iterP l j a) → chainR l n a = true := by
  intro n
  induction n with
  | zero => intro k a h; exact absurd h (Nat.not_lt_zero _)
  | succ n ih =>
    intro k a h h2 h3
    cases k with
    | zero => exact chainR_neg _ _ _ h2
    | succ k =>
      have ha : ¬ a < 0 := by have := h3 0 (by omega); show ¬ iterP l 0 a < 0; omega
      rw [chainR_next _ _ _ ha]
      exact ih k _ (by omega) h2 (fun j hj => h3 (j + 1) (by omega))
theorem chain_len (l : List S80) (hl : l.length ≤ 16) (hp : ∀ a : Int, 0 ≤ a → a < (l.length : Int) → (rd_T80 l a).f1 = -1 ∨ (0 ≤ (rd_T80 l a).f1 ∧ (rd_T80 l a).f1 < (l.length : Int))) (i : Nat) (hi : i < l.length) :
    chainR l l.length (rd_T80 l (i : Int)).f1 = chainR l 18 (rd_T80 l (i : Int)).f1 := by
  rw [Bool.eq_iff_iff]
  constructor
  · intro h
    obtain ⟨k, h1, h2, h3⟩ := chainR_true l _ _ h
    exact chainR_of l 18 k _ (by omega) h2 h3
  · intro h
    obtain ⟨k, h1, h2, h3⟩ := chainR_true l _ _ h
    refine chainR_of l _ k _ ?_ h2 h3
    have hval : ∀ j, j ≤ k → 0 ≤ iterP l j (i : Int) ∧ iterP l j (i : Int) < (l.length : Int) := by
      intro j
      induction j with
      | zero => intro _; exact ⟨by show 0 ≤ (i : Int); omega, by show (i : Int) < _; omega⟩
      | succ j ih =>
        intro hj
        have h4 := ih (by omega)
        have h5 : 0 ≤ iterP l (j + 1) (i : Int) := h3 j (by omega)
        have h6 : iterP l (j + 1) (i : Int) = (rd_T80 l (iterP l j (i : Int))).f1 := by rw [iterP_add l 1 j]; rfl
        rw [h6] at h5 ⊢
        rcases hp _ h4.1 h4.2 with h7 | h7
        · omega
        · exact h7
    have hinj : ∀ x y, x < y → y ≤ k → iterP l x (i : Int) = iterP l y (i : Int) → False := by
      intro x y hxy hyk he
      have h4 : iterP l (x + (k + 1 - y)) (i : Int) = iterP l (y + (k + 1 - y)) (i : Int) := by rw [iterP_add, iterP_add, he]
      have h5 := (hval (x + (k + 1 - y)) (by omega)).1
      rw [h4, show y + (k + 1 - y) = k + 1 by omega] at h5
      have h6 : iterP l (k + 1) (i : Int) < 0 := h2
      omega
    have := pigeon l.length (fun j => (iterP l j (i : Int)).toNat) (k + 1) (fun j hj => by have := hval j (by omega); show (iterP l j (i : Int)).toNat < l.length; omega) (fun a b ha hb hab => by
      have h4 := hval a (by omega)
      have h5 := hval b (by omega)
      have h6 : iterP l a (i : Int) = iterP l b (i : Int) := by have h7 : (iterP l a (i : Int)).toNat = (iterP l b (i : Int)).toNat := hab; omega
      rcases Nat.lt_trichotomy a b with h | h | h
      · exact (hinj a b h (by omega) h6).elim
      · exact h
      · exact (hinj b a h (by omega) h6.symm).elim)
    omega
def livD (l : List S80) (n : Int) : Bool := decide (0 ≤ n) && (decide (n < (l.length : Int)) && ((rd_T80 l n).f0 != -1))
def instD (l : List S80) (t : List S92) (x : S80) : Bool := if x.f0 = -1 then noInst x else hereInst t x && (decide (x.f1 = -1) || livD l x.f1)
theorem living_val (l : List S80) (n : Int) : dict_living.f l n = some (livD l n) := by
  unfold dict_living.f livD
  by_cases h0 : n ≥ 0
  · rw [if_pos h0, decide_eq_true (show 0 ≤ n from h0)]
    by_cases h1 : n < (l.length : Int)
    · rw [if_pos h1, if_pos (show 0 ≤ n from h0), decide_eq_true h1]; rfl
    · rw [if_neg h1, decide_eq_false h1]; rfl
  · rw [if_neg h0, decide_eq_false (show ¬ 0 ≤ n from h0)]; rfl
theorem instRight_val (l : List S80) (x : S80) (t : List S92) : dict_instRight.f l x.f0 x.f1 x.f2 x.f3 t = some (instD l t x) := by
  unfold dict_instRight.f instD
  by_cases h0 : x.f0 = -1
  · rw [if_pos h0, if_pos h0]
    unfold noInst
    by_cases h1 : x.f1 = -1
    · rw [if_pos h1, decide_eq_true h1]
      by_cases h2 : x.f2.toList = ([] : List UInt8)
      · rw [if_pos h2, h2]
        congr 1
        rw [Bool.eq_iff_iff]
        simp
      · have : x.f2.toList.isEmpty = false := by simpa using h2
        rw [if_neg h2, this]; rfl
    · rw [if_neg h1, decide_eq_false h1]; rfl
  rw [if_neg h0, if_neg h0]
  unfold hereInst
  by_cases h1 : x.f0 ≥ 0
  · rw [if_pos h1, decide_eq_true (show 0 ≤ x.f0 from h1)]
    by_cases h2 : x.f0 < (t.length : Int)
    · rw [if_pos h2, if_pos (show 0 ≤ x.f0 from h1), decide_eq_true h2]
      by_cases h3 : (x.f3.length : Int) = ((rd_T92 t x.f0).f4.length : Int)
      · rw [if_pos h3, decide_eq_true (show x.f3.length = (rd_T92 t x.f0).f4.length by omega)]
        by_cases h4 : (x.f2.size : Int) ≤ 256
        · rw [if_pos h4, decide_eq_true (show x.f2.size ≤ 256 by omega)]
          unfold strings_Contains.f
          rw [if_pos rfl, Option.bind_some, (indexByte_has x.f2.data.toList 47).1]
          cases x.f2.data.toList.contains 47 with
          | true => rfl
          | false =>
            rw [if_neg Bool.false_ne_true]
            by_cases h5 : x.f1 = -1
            · rw [if_pos h5, decide_eq_true h5]; rfl
            · rw [if_neg h5, decide_eq_false h5, living_val]; rfl
        · rw [if_neg h4, decide_eq_false (show ¬ x.f2.size ≤ 256 by omega)]; rfl
      · rw [if_neg h3, decide_eq_false (show ¬ x.f3.length = (rd_T92 t x.f0).f4.length by omega)]; rfl
    · rw [if_neg h2, decide_eq_false h2]; rfl
  · rw [if_neg h1, decide_eq_false (show ¬ 0 ≤ x.f0 from h1)]; rfl
theorem ends_val (l : List S80) (hl : l.length ≤ 16) (hg : ∀ x ∈ l, goodInst l x) : ∀ (d i : Nat), i + d = l.length + 1 → ∀ (p : Int), (p = -1 ∨ (0 ≤ p ∧ p < (l.length : Int))) → ∀ k, d + 1 ≤ k → dict_ends.l0 k l p ((l.length + 1 : Nat) : Int) (i : Int) = some (chainR l d p) := by
  intro d
  induction d with
  | zero =>
    intro i hi p hp k hk
    obtain ⟨k', rfl⟩ : ∃ k', k = k' + 1 := ⟨k - 1, by omega⟩
    unfold dict_ends.l0
    rw [if_neg (by omega)]
    rfl
  | succ d ih =>
    intro i hi p hp k hk
    obtain ⟨k', rfl⟩ : ∃ k', k = k' + 1 := ⟨k - 1, by omega⟩
    unfold dict_ends.l0
    rw [if_pos (by omega)]
    by_cases hp1 : p = -1
    · rw [if_pos hp1, chainR_neg _ _ _ (by omega)]
    · rw [if_neg hp1, if_pos (by omega), if_pos (by omega), wrapn i (by omega), chainR_next _ _ _ (by omega)]
      exact ih (i + 1) (by omega) _ ((hg _ (rd80_get (by omega) (by omega))).1) k' (by omega)
theorem good_parents {l : List S80} (hg : ∀ x ∈ l, goodInst l x) (a : Int) (h0 : 0 ≤ a) (h1 : a < (l.length : Int)) : (rd_T80 l a).f1 = -1 ∨ (0 ≤ (rd_T80 l a).f1 ∧ (rd_T80 l a).f1 < (l.length : Int)) := (hg _ (rd80_get h0 h1)).1
theorem insts_l1v (l : List S80) (hl : l.length ≤ 16) (hg : ∀ x ∈ l, goodInst l x) (l0 l1 : List Int) (l2 : List S45) (l3 : List Int) (a4 : Int) (l5 : List S92) (a6 a8 : Int) (a9 : ByteArray) : ∀ (d i : Nat), i + d = l.length → ∀ k, d + 20 ≤ k →
    dict_instsRight.l1 k (l.length : Int) (i : Int) l0 l1 l2 l3 a4 l5 a6 l a8 a9 = some (((List.range l.length).drop i).all (endsR l)) := by
  intro d
  induction d with
  | zero =>
    intro i hi k hk
    obtain ⟨k', rfl⟩ : ∃ k', k = k' + 1 := ⟨k - 1, by omega⟩
    unfold dict_instsRight.l1
    rw [if_neg (by omega), List.drop_eq_nil_of_le (by rw [List.length_range]; omega)]
    rfl
  | succ d ih =>
    intro i hi k hk
    obtain ⟨k', rfl⟩ : ∃ k', k = k' + 1 := ⟨k - 1, by omega⟩
    unfold dict_instsRight.l1
    rw [if_pos (by omega)]
    have hw : wrap64 ((l.length : Int) + 1) = ((l.length + 1 : Nat) : Int) := wrapn _ (by omega)
    have hb' : dict_ends.f k' l (i : Int) = some (endsR l i) := by
      unfold dict_ends.f
      rw [hw]
      have h1 := ends_val l hl hg (l.length + 1) 0 (by omega) (i : Int) (.inr ⟨by omega, by omega⟩) k' (by omega)
      rw [chainR_next _ _ _ (show ¬ (i : Int) < 0 by omega), chain_len l hl (good_parents hg) i (by omega)] at h1
      exact h1
    rw [hb', Option.bind_some, List.drop_eq_getElem_cons (by rw [List.length_range]; omega), List.all_cons, List.getElem_range]
    cases endsR l i with
    | false => rfl
    | true =>
      rw [if_pos rfl, wrapn i (by omega), Bool.true_and]
      exact ih (i + 1) (by omega) k' (by omega)
theorem insts_l0v (l : List S80) (hl : l.length ≤ 16) (l0 l1 : List Int) (l2 : List S45) (l3 : List Int) (a4 : Int) (l5 : List S92) (ht : ∀ y ∈ l5, y.f4.length ≤ 16) (a6 a8 : Int) (a9 : ByteArray) : ∀ (d i : Nat), i + d = l.length → (∀ x ∈ l.take i, goodInst l x) → ∀ k, d + 40 ≤ k →
    dict_instsRight.l0 k l (l.length : Int) (i : Int) l0 l1 l2 l3 a4 l5 a6 l a8 a9 = some (((List.range l.length).drop i).all (fun j => instD l l5 (l.getD j z80)) && (List.range l.length).all (endsR l)) := by
  intro d
  induction d with
  | zero =>
    intro i hi hg k hk
    obtain ⟨k', rfl⟩ : ∃ k', k = k' + 1 := ⟨k - 1, by omega⟩
    unfold dict_instsRight.l0
    have hg' : ∀ x ∈ l, goodInst l x := by rw [List.take_of_length_le (by omega)] at hg; exact hg
    rw [if_neg (by omega), List.drop_eq_nil_of_le (by rw [List.length_range]; omega)]
    have := insts_l1v l hl hg' l0 l1 l2 l3 a4 l5 a6 a8 a9 l.length 0 (by omega) k' (by omega)
    rw [List.drop_zero] at this
    exact this
  | succ d ih =>
    intro i hi hg k hk
    obtain ⟨k', rfl⟩ : ∃ k', k = k' + 1 := ⟨k - 1, by omega⟩
    unfold dict_instsRight.l0
    obtain ⟨b, hb, hbt⟩ := instRight_tot l (rd_T80 l (i : Int)) l5 ht
    have hv := instRight_val l (rd_T80 l (i : Int)) l5
    rw [if_pos (by omega), if_pos (by omega), if_pos (by omega), hb, Option.bind_some, List.drop_eq_getElem_cons (by rw [List.length_range]; omega), List.all_cons, List.getElem_range]
    have he : instD l l5 (l.getD i z80) = b := by rw [hv] at hb; exact Option.some.inj hb
    rw [he]
    cases b with
    | false => rfl
    | true =>
      rw [if_pos rfl, wrapn i (by omega), Bool.true_and]
      refine ih (i + 1) (by omega) (fun x hx => ?_) k' (by omega)
      rw [List.take_succ_eq_append_getElem (by omega)] at hx
      rcases List.mem_append.1 hx with hx | hx
      · exact hg x hx
      · have e : rd_T80 l (i : Int) = l[i]'(by omega) := by
          unfold rd_T80
          rw [List.getD_eq_getElem?_getD, show ((i : Int)).toNat = i from by omega, List.getElem?_eq_getElem (show i < l.length by omega)]
          rfl
        rw [List.mem_singleton.1 hx, ← e]
        exact hbt rfl
theorem insts_val (l0 l1 : List Int) (l2 : List S45) (l3 : List Int) (a4 : Int) (l5 : List S92) (a6 : Int) (l7 : List S80) (a8 : Int) (a9 : ByteArray) (ht : ∀ y ∈ l5, y.f4.length ≤ 16) :
    (anyK fun k => dict_instsRight.f k l0 l1 l2 l3 a4 l5 a6 l7 a8 a9) = some (decide (l7.length ≤ 16) && ((decide (a8 = -1) || livD l7 a8) && ((List.range l7.length).all (fun j => instD l7 l5 (l7.getD j z80)) && (List.range l7.length).all (endsR l7)))) := by
  refine anyK_of (k := 63 + 1) (fun j => dict_instsRight.mono _ _ _ _ _ _ _ _ _ _ j) ?_
  have hj0 : dict_instsRight.j0 (63 + 1) true l0 l1 l2 l3 a4 l5 a6 l7 a8 a9 = some false := by unfold dict_instsRight.j0; rfl
  unfold dict_instsRight.f
  by_cases h0 : (l7.length : Int) > 16
  · rw [if_pos h0, hj0, decide_eq_false (show ¬ l7.length ≤ 16 by omega)]; rfl
  · rw [if_neg h0, decide_eq_true (show l7.length ≤ 16 by omega)]
    have hj1 : dict_instsRight.j0 (63 + 1) false l0 l1 l2 l3 a4 l5 a6 l7 a8 a9 = some ((List.range l7.length).all (fun j => instD l7 l5 (l7.getD j z80)) && (List.range l7.length).all (endsR l7)) := by
      unfold dict_instsRight.j0
      dsimp only
      rw [if_neg Bool.false_ne_true]
      have := insts_l0v l7 (by omega) l0 l1 l2 l3 a4 l5 ht a6 a8 a9 l7.length 0 (by omega) (by simp) 63 (by omega)
      rw [List.drop_zero] at this
      exact this
    by_cases h1 : a8 = -1
    · rw [if_pos h1, hj1, decide_eq_true h1]; rfl
    · rw [if_neg h1, decide_eq_false h1, living_val, Option.bind_some]
      cases livD l7 a8 with
      | false => exact hj0
      | true => exact hj1
theorem insts_all (l : List S80) (t : List S92) : (List.range l.length).all (fun j => instD l t (l.getD j z80)) = (List.range l.length).all (instAt l t) := by
  rw [Bool.eq_iff_iff, List.all_eq_true, List.all_eq_true]
  have node : ∀ x, instD l t x = true → x.f0 ≠ -1 → 0 ≤ x.f0 := fun x h hx => by
    unfold instD hereInst at h
    rw [if_neg hx] at h
    simp only [Bool.and_eq_true, decide_eq_true_eq] at h
    exact h.1.1
  constructor
  · intro h j hj
    have hd := h j hj
    unfold instAt instR
    generalize l.getD j z80 = x at *
    have hd' := hd
    unfold instD at hd'
    by_cases hx : x.f0 = -1
    · rw [if_pos hx] at hd' ⊢; exact hd'
    · rw [if_neg hx] at hd' ⊢
      rw [Bool.and_eq_true] at hd' ⊢
      refine ⟨hd'.1, ?_⟩
      rw [Bool.or_eq_true] at hd' ⊢
      rcases hd'.2 with h1 | h1
      · exact .inl h1
      · refine .inr ?_
        unfold livD at h1
        simp only [Bool.and_eq_true, decide_eq_true_eq, bne_iff_ne, ne_eq] at h1
        have h2 := h x.f1.toNat (List.mem_range.2 (by omega))
        have h3 := node (rd_T80 l x.f1) h2 h1.2.2
        unfold aliveR
        rw [decide_eq_true h1.1, decide_eq_true h1.2.1, decide_eq_true h3]
        rfl
  · intro h j hj
    have hd := h j hj
    unfold instAt instR at hd
    unfold instD
    generalize l.getD j z80 = x at *
    by_cases hx : x.f0 = -1
    · rw [if_pos hx] at hd ⊢; exact hd
    · rw [if_neg hx] at hd ⊢
      rw [Bool.and_eq_true] at hd ⊢
      refine ⟨hd.1, ?_⟩
      rw [Bool.or_eq_true] at hd ⊢
      rcases hd.2 with h1 | h1
      · exact .inl h1
      · refine .inr ?_
        unfold aliveR at h1
        simp only [Bool.and_eq_true, decide_eq_true_eq] at h1
        unfold livD
        rw [decide_eq_true h1.1, decide_eq_true h1.2.1]
        have : ((rd_T80 l x.f1).f0 != -1) = true := bne_iff_ne.2 (by omega)
        rw [this]
        rfl
theorem insts_both (l7 : List S80) (l5 : List S92) (a8 : Int) :
    (decide (l7.length ≤ 16) && ((decide (a8 = -1) || livD l7 a8) && ((List.range l7.length).all (fun j => instD l7 l5 (l7.getD j z80)) && (List.range l7.length).all (endsR l7)))) = (instsR l7 l5 && (decide (a8 = -1) || aliveR l7 a8)) := by
  rw [insts_all]
  unfold instsR
  cases hl : decide (l7.length ≤ 16) with
  | false => rfl
  | true =>
    cases ha : (List.range l7.length).all (instAt l7 l5) with
    | false => simp
    | true =>
      have hlv : livD l7 a8 = aliveR l7 a8 := by
        unfold livD aliveR
        by_cases h0 : 0 ≤ a8
        · by_cases h1 : a8 < (l7.length : Int)
          · rw [decide_eq_true h0, decide_eq_true h1]
            have h2 := List.all_eq_true.1 ha a8.toNat (List.mem_range.2 (by omega))
            change instR l7 l5 (rd_T80 l7 a8) = true at h2
            unfold instR hereInst at h2
            by_cases hx : (rd_T80 l7 a8).f0 = -1
            · rw [hx]; rfl
            · rw [if_neg hx] at h2
              simp only [Bool.and_eq_true, decide_eq_true_eq] at h2
              rw [decide_eq_true h2.1.1]
              have : ((rd_T80 l7 a8).f0 != -1) = true := bne_iff_ne.2 hx
              rw [this]
          · rw [decide_eq_false h1]; rfl
        · rw [decide_eq_false h0]; rfl
      rw [hlv]
      cases (List.range l7.length).all (endsR l7) <;> simp
theorem words_val (l0 l1 : List Int) (l2 : List S45) (l3 : List Int) (a4 : Int) (l5 : List S92) (a6 : Int) (l7 : List S80) (a8 : Int) (a9 : ByteArray) :
    dict_wordsRight.f l0 l1 l2 l3 a4 l5 a6 l7 a8 a9 = some (decide (l2.length ≤ 640) && (decide (111 ≤ l2.length) && (List.range l2.length).all (wordAt l2 l5))) := by
  unfold dict_wordsRight.f
  by_cases h : 640 < l2.length ∨ l2.length < 111
  · rw [if_pos h]
    rcases h with h | h
    · rw [decide_eq_false (show ¬ l2.length ≤ 640 by omega)]; rfl
    · rw [decide_eq_false (show ¬ 111 ≤ l2.length by omega), Bool.false_and, Bool.and_false]
  rw [if_neg h, decide_eq_true (show l2.length ≤ 640 by omega), decide_eq_true (show 111 ≤ l2.length by omega), Bool.true_and, Bool.true_and]
  have hsplit : (List.range l2.length).all (wordAt l2 l5) = (okAll l2 && (l2.drop 111).all (fun x => wordV9 (l2.length : Int) l5 x)) := by
    rw [Bool.eq_iff_iff, Bool.and_eq_true, List.all_eq_true]
    unfold okAll
    rw [List.all_eq_true, List.all_eq_true]
    constructor
    · intro hh
      refine ⟨fun i _ => ?_, fun x hx => ?_⟩
      · have h1 := hh i.val (List.mem_range.2 (by omega))
        unfold wordAt at h1
        rw [if_pos i.isLt] at h1
        exact h1
      · obtain ⟨j, hj, hxj⟩ := List.mem_iff_getElem.1 hx
        rw [List.length_drop] at hj
        rw [List.getElem_drop] at hxj
        have h1 := hh (111 + j) (List.mem_range.2 (by omega))
        unfold wordAt at h1
        rw [if_neg (by omega), List.getD_eq_getElem?_getD, List.getElem?_eq_getElem (by omega)] at h1
        rw [← hxj]
        exact h1
    · intro ⟨h1, h2⟩ i hi
      have hi' := List.mem_range.1 hi
      unfold wordAt
      by_cases h3 : i < 111
      · rw [if_pos h3]
        exact h1 ⟨i, h3⟩ (List.mem_finRange _)
      · rw [if_neg h3, List.getD_eq_getElem?_getD, List.getElem?_eq_getElem hi']
        refine h2 _ (List.mem_iff_getElem.2 ⟨i - 111, by rw [List.length_drop]; omega, ?_⟩)
        rw [List.getElem_drop]
        have : 111 + (i - 111) = i := by omega
        simp only [this]
        rfl
  rw [hsplit]
  cases hok : okAll l2 with
  | false => rfl
  | true =>
    rw [if_pos rfl]
    unfold restO
    rw [if_pos (List.all_eq_true.2 (fun x _ => by obtain ⟨b, hb, _⟩ := rightO_tot (l2.length : Int) l5 x; rw [hb]; rfl))]
    congr 1
    rw [Bool.eq_iff_iff, Bool.not_eq_true', Bool.true_and, List.any_eq_false, List.all_eq_true]
    unfold wordV9
    constructor
    · intro h1 x hx
      have := h1 x hx
      simpa using this
    · intro h1 x hx
      have := h1 x hx
      simpa using this
theorem formed_same (l0 l1 : List Int) (l2 : List S45) (l3 : List Int) (a4 : Int) (l5 : List S92) (a6 : Int) (l7 : List S80) (a8 : Int) (a9 : ByteArray) :
    dict_Formed.f l0 l1 l2 l3 a4 l5 a6 l7 a8 a9 = some (formedR l0 l1 l2 l3 l5 l7 a4 a6 a8 a9) := by
  unfold dict_Formed.f
  by_cases c0 : (decide (64 < (l0.length : Int))) = true
  · rw [if_pos c0]; simp only [decide_eq_true_eq] at c0
    unfold formedR capsR; rw [decide_eq_false (show ¬ l0.length ≤ 64 by omega)]; rfl
  rw [if_neg c0]
  by_cases c1 : (decide (4096 < (l1.length : Int))) = true
  · rw [if_pos c1]; simp only [decide_eq_true_eq] at c1
    unfold formedR capsR; rw [decide_eq_false (show ¬ l1.length ≤ 4096 by omega)]; simp
  rw [if_neg c1]
  by_cases c2 : (decide (1024 < (a9.size : Int))) = true
  · rw [if_pos c2]; simp only [decide_eq_true_eq] at c2
    unfold formedR capsR; rw [decide_eq_false (show ¬ a9.size ≤ 1024 by omega)]; simp
  rw [if_neg c2]
  by_cases c3 : (decide (2048 < (l3.length : Int))) = true
  · rw [if_pos c3]; simp only [decide_eq_true_eq] at c3
    unfold formedR capsR; rw [decide_eq_false (show ¬ l3.length ≤ 2048 by omega)]; simp
  rw [if_neg c3]
  by_cases c4 : (decide (a4 < 2)) = true
  · rw [if_pos c4]; simp only [decide_eq_true_eq] at c4
    unfold formedR capsR; rw [decide_eq_false (show ¬ 2 ≤ a4 by omega)]; simp
  rw [if_neg c4]
  by_cases c5 : (decide (36 < a4)) = true
  · rw [if_pos c5]; simp only [decide_eq_true_eq] at c5
    unfold formedR capsR; rw [decide_eq_false (show ¬ a4 ≤ 36 by omega)]; simp
  rw [if_neg c5]
  cases ht : treeB l5 with
  | false => unfold formedR treesR; rw [ht]; simp
  | true =>
    rw [if_neg (by simp)]
    by_cases c7 : (decide (a6 < -1)) = true
    · rw [if_pos c7]; simp only [decide_eq_true_eq] at c7
      unfold formedR treesR; rw [decide_eq_false (show ¬ -1 ≤ a6 by omega)]; simp
    rw [if_neg c7]
    by_cases c8 : (decide (a6 ≥ (l5.length : Int))) = true
    · rw [if_pos c8]; simp only [decide_eq_true_eq] at c8
      unfold formedR treesR; rw [decide_eq_false (show ¬ a6 < (l5.length : Int) by omega)]; simp
    rw [if_neg c8, insts_val l0 l1 l2 l3 a4 l5 a6 l7 a8 a9 (fun y hy => by obtain ⟨i, hi⟩ := treeB_at ht hy; exact (nodeX_le hi).1), insts_both, Option.bind_some, words_val, Option.bind_some]
    simp only [decide_eq_true_eq] at c0 c1 c2 c3 c4 c5 c7 c8
    have hcodes : (!(l3.any (wildB l2.length))) = (List.range l3.length).all (codeAt l2 l3) := by
      rw [Bool.eq_iff_iff, Bool.not_eq_true', List.any_eq_false, List.all_eq_true]
      constructor
      · intro h1 i hi
        have hi' := List.mem_range.1 hi
        have h2 := h1 l3[i] (List.getElem_mem _)
        unfold wildB at h2
        unfold codeAt
        rw [List.getD_eq_getElem?_getD, List.getElem?_eq_getElem hi']
        simp only [Bool.or_eq_true, decide_eq_true_eq, Bool.and_eq_true, Option.getD_some] at h2 ⊢
        omega
      · intro h1 x hx
        obtain ⟨i, hi, rfl⟩ := List.mem_iff_getElem.1 hx
        have h2 := h1 i (List.mem_range.2 hi)
        unfold codeAt at h2
        rw [List.getD_eq_getElem?_getD, List.getElem?_eq_getElem hi] at h2
        unfold wildB
        simp only [Bool.or_eq_true, decide_eq_true_eq, Bool.and_eq_true, Option.getD_some] at h2 ⊢
        omega
    rw [hcodes]
    unfold formedR treesR capsR
    rw [ht, decide_eq_true (show -1 ≤ a6 by omega), decide_eq_true (show a6 < (l5.length : Int) by omega), decide_eq_true (show l0.length ≤ 64 by omega), decide_eq_true (show l1.length ≤ 4096 by omega), decide_eq_true (show l3.length ≤ 2048 by omega), decide_eq_true (show 2 ≤ a4 by omega), decide_eq_true (show a4 ≤ 36 by omega), decide_eq_true (show a9.size ≤ 1024 by omega)]
    generalize (instsR l7 l5 && (decide (a8 = -1) || aliveR l7 a8)) = B1
    generalize (List.range l2.length).all (wordAt l2 l5) = B2
    generalize (List.range l3.length).all (codeAt l2 l3) = B3
    generalize decide (l2.length ≤ 640) = B4
    generalize decide (111 ≤ l2.length) = B5
    cases B1 <;> cases B2 <;> cases B3 <;> cases B4 <;> cases B5 <;> rfl
end Go.Proofs.Ytpalbpakeokimaa.PK
