/- The plain law of DictFinds. -/
import Derived.Test.YtpalbpakeokimaaLf
namespace Go.Proofs.Ytpalbpakeokimaa.PK
set_option linter.unusedVariables false
set_option linter.unusedSimpArgs false
open Go.RowKit Go.Proofs.YtpalbpakeokimaaW.PrintWords Go.Proofs.YtpalbpakeokimaaW.PrintLast Go.Proofs.YtpalbpakeokimaaW.PrintMore
/-- the newest word below m for which p holds -/
def lastN (p : S45 → Bool) (l : List S45) : Nat → Int × Bool
  | 0 => (0, false)
  | m + 1 => if p (l.getD m z45) then ((m : Int), true) else lastN p l m
theorem lastP_eq (p : S45 → Bool) (l : List S45) : lastP p l = lastN p l l.length := by
  have key : ∀ m, m ≤ l.length → (match ((List.finRange l.length).take m).reverse.find? (fun i => p (l.getD i.val z45)) with | some i => ((i.val : Int), true) | none => (0, false)) = lastN p l m := by
    intro m
    induction m with
    | zero => intro _; rfl
    | succ m ih =>
      intro hm
      have ht : (List.finRange l.length).take (m + 1) = (List.finRange l.length).take m ++ [⟨m, by omega⟩] := by
        rw [List.take_succ_eq_append_getElem (by simp; omega)]
        simp
      rw [ht, List.reverse_append, List.reverse_singleton, List.singleton_append, List.find?_cons]
      unfold lastN
      cases hp : p (l.getD m z45) with
      | true => simp [hp]
      | false => simp only [hp, Bool.false_eq_true, if_false]; exact ih (by omega)
  have := key l.length (Nat.le_refl _)
  rw [List.take_of_length_le (by simp)] at this
  exact this
theorem lastN_false {p : S45 → Bool} (h : ∀ x, p x = false) (l : List S45) : ∀ m, lastN p l m = (0, false)
  | 0 => rfl
  | m + 1 => by unfold lastN; rw [h, if_neg Bool.false_ne_true, lastN_false h l m]
theorem wrap_prev (m : Nat) (h : m ≤ 9223372036854775807) : wrap64 ((m : Int) - 1) = (m : Int) - 1 := by
  unfold wrap64
  omega
theorem wrap_prev' (m : Nat) (h : m ≤ 9223372036854775807) : wrap64 (((m : Int) + 1) - 1 - 1) = (m : Int) - 1 := by
  unfold wrap64
  omega
theorem toList_empty (s : ByteArray) : (s.toList = ([] : List UInt8)) ↔ s.toList.isEmpty = true := by simp
theorem find_from (l : List S45) (hl : l.length ≤ 9223372036854775807) (a1 : ByteArray) (l0 l1 l3 : List Int) (a4 : Int) (l5 : List S92) (a6 : Int) (l7 : List S80) (a8 : Int) (a9 : ByteArray) : ∀ m, m ≤ l.length → ∀ k, 2 * m + 2 ≤ k →
    tinderref09_Find.l0 k a1 ((m : Int) - 1) l0 l1 l l3 a4 l5 a6 l7 a8 a9 = some (lastN (findP a1) l m) := by
  intro m
  induction m with
  | zero =>
    intro _ k hk
    obtain ⟨k', rfl⟩ : ∃ k', k = k' + 2 := ⟨k - 2, by omega⟩
    unfold tinderref09_Find.l0
    rw [if_neg (by omega)]
    unfold tinderref09_Find.j1
    rw [if_neg Bool.false_ne_true]
    rfl
  | succ m ih =>
    intro hm k hk
    obtain ⟨k', rfl⟩ : ∃ k', k = k' + 2 := ⟨k - 2, by omega⟩
    have hi : ((m + 1 : Nat) : Int) - 1 = (m : Int) := by omega
    rw [hi]
    have hr : rd_T45 l (m : Int) = l.getD m z45 := by simp [rd_T45]
    show _ = some (if findP a1 (l.getD m z45) then ((m : Int), true) else lastN (findP a1) l m)
    generalize l.getD m z45 = x at *
    unfold tinderref09_Find.l0
    rw [if_pos (by omega)]
    unfold tinderref09_Find.j1
    rw [wrap_prev m (by omega), ih (by omega) k' (by omega), hr]
    by_cases he : a1.toList = []
    · rw [if_neg (by rw [he]; decide)]
      rw [lastN_false (fun x => by unfold findP; rw [he]; rfl), if_neg (by unfold findP; rw [he]; simp)]
    · rw [if_pos (bne_iff_ne.mpr he), if_pos (by omega), if_pos (by omega)]
      have hne : a1.toList.isEmpty = false := by
        cases h : a1.toList.isEmpty with
        | false => rfl
        | true => exact absurd ((toList_empty a1).2 h) he
      by_cases hn : x.f0.toList = a1.toList
      · rw [if_pos hn, if_pos (by unfold findP; rw [hne, hn]; simp)]
      · rw [if_neg hn, if_neg (by unfold findP; rw [hne]; simp [hn])]
theorem meth_from (l : List S45) (hl : l.length ≤ 9223372036854775807) (n : Int) (a1 : ByteArray) (l0 l1 l3 : List Int) (a4 : Int) (l5 : List S92) (a6 : Int) (l7 : List S80) (a8 : Int) (a9 : ByteArray) : ∀ m, m ≤ l.length → ∀ k, 2 * m + 2 ≤ k →
    tinderref09_Method.l0 k n a1 ((m : Int) - 1) l0 l1 l l3 a4 l5 a6 l7 a8 a9 = some (lastN (methP n a1) l m) := by
  intro m
  induction m with
  | zero =>
    intro _ k hk
    obtain ⟨k', rfl⟩ : ∃ k', k = k' + 2 := ⟨k - 2, by omega⟩
    unfold tinderref09_Method.l0
    rw [if_neg (by omega)]
    unfold tinderref09_Method.j1
    rw [if_neg Bool.false_ne_true]
    rfl
  | succ m ih =>
    intro hm k hk
    obtain ⟨k', rfl⟩ : ∃ k', k = k' + 2 := ⟨k - 2, by omega⟩
    have hi : ((m + 1 : Nat) : Int) - 1 = (m : Int) := by omega
    rw [hi]
    have hr : rd_T45 l (m : Int) = l.getD m z45 := by simp [rd_T45]
    show _ = some (if methP n a1 (l.getD m z45) then ((m : Int), true) else lastN (methP n a1) l m)
    generalize l.getD m z45 = x at *
    unfold tinderref09_Method.l0
    rw [if_pos (by omega)]
    by_cases he : a1.toList = []
    · rw [if_pos he]
      unfold tinderref09_Method.j1
      rw [if_neg Bool.false_ne_true]
      rw [lastN_false (fun x => by unfold methP; rw [he]; rfl), if_neg (by unfold methP; rw [he]; simp)]
    · rw [if_neg he]
      have hne : a1.toList.isEmpty = false := by
        cases h : a1.toList.isEmpty with
        | false => rfl
        | true => exact absurd ((toList_empty a1).2 h) he
      by_cases hn0 : n ≥ 0
      · have d0 : decide (n ≥ 0) = true := decide_eq_true hn0
        have d0' : decide (0 ≤ n) = true := decide_eq_true hn0
        rw [d0]
        unfold tinderref09_Method.j1
        rw [if_pos rfl, if_pos (by omega), if_pos (by omega), wrap_prev m (by omega), ih (by omega) k' (by omega), hr]
        by_cases hn : x.f0.toList = a1.toList
        · rw [if_pos hn]
          by_cases hd : x.f1 = n
          · rw [if_pos hd, if_pos (by unfold methP; rw [hne, hn, hd, d0']; simp)]
          · rw [if_neg hd, if_neg (by unfold methP; simp [hd])]
        · rw [if_neg hn, if_neg (by unfold methP; simp [hn])]
      · have d0 : decide (n ≥ 0) = false := decide_eq_false hn0
        have d0' : decide (0 ≤ n) = false := decide_eq_false hn0
        rw [d0]
        unfold tinderref09_Method.j1
        rw [if_neg Bool.false_ne_true]
        rw [lastN_false (fun x => by unfold methP; rw [d0']; simp), if_neg (by unfold methP; rw [d0']; simp)]
theorem primsL_len : primsL.length = 111 := by kernel_rfl
/-- the FCode number's first word from place i on -/
theorem prim_from (c : Int) : ∀ (j i : Nat), i + j = 111 → ∀ k, j + 1 ≤ k →
    tinderref09_Code.l0 k c primsL (i : Int) = some (match ((List.finRange 111).drop i).find? (fun x => (primAt x.val).f1 == c) with | some x => ((x.val : Int), true) | none => (0, false)) := by
  intro j
  induction j with
  | zero =>
    intro i hi k hk
    obtain ⟨k', rfl⟩ : ∃ k', k = k' + 1 := ⟨k - 1, by omega⟩
    unfold tinderref09_Code.l0
    rw [if_neg (by rw [primsL_len]; omega), List.drop_eq_nil_of_le (by simp; omega)]
    rfl
  | succ j ih =>
    intro i hi k hk
    obtain ⟨k', rfl⟩ : ∃ k', k = k' + 1 := ⟨k - 1, by omega⟩
    have hlt : i < 111 := by omega
    have hd : (List.finRange 111).drop i = ⟨i, hlt⟩ :: (List.finRange 111).drop (i + 1) := by
      rw [List.drop_eq_getElem_cons (by simpa using hlt)]
      simp
    have hr : rd_T64 primsL (i : Int) = primAt i := by simp [rd_T64, primAt]
    have hw : wrap64 ((i : Int) + 1) = ((i + 1 : Nat) : Int) := by unfold wrap64; omega
    unfold tinderref09_Code.l0
    rw [if_pos (by rw [primsL_len]; omega), if_pos (by omega), hr, hw, ih (i + 1) (by omega) k' (by omega), hd, List.find?_cons]
    by_cases h : (primAt i).f1 = c
    · rw [if_pos h]
      simp [h]
    · rw [if_neg h]
      have hb : ((primAt i).f1 == c) = false := by simpa using h
      simp only [hb]
theorem code_both (l0_0 l0_1 : List Int) (l0_2 : List S45) (l0_3 : List Int) (a0_4 : Int) (l0_5 : List S92) (a0_6 : Int) (l0_7 : List S80) (a0_8 : Int) (a0_9 : ByteArray) (a2 : Int) (h3 : a2 ≤ 9223372036854775807) (k : Nat) (hk : 112 ≤ k) :
    ∃ r, dict_Code.f l0_0 l0_1 l0_2 l0_3 a0_4 l0_5 a0_6 l0_7 a0_8 a0_9 a2 = some r ∧ tinderref09_Code.f k l0_0 l0_1 l0_2 l0_3 a0_4 l0_5 a0_6 l0_7 a0_8 a0_9 a2 = some r := by
  unfold dict_Code.f tinderref09_Code.f codeF
  rw [if_pos h3]
  by_cases hlo : a2 < 2048
  · rw [if_pos hlo, if_neg (by omega)]
    unfold tinderref09_Prims.f
    rw [Option.bind_some]
    have := prim_from a2 111 0 (by omega) k (by omega)
    rw [List.drop_zero] at this
    exact ⟨_, rfl, this⟩
  · have hge : a2 ≥ 2048 := by omega
    rw [if_neg hlo, if_pos hge]
    have hw : wrap64 (a2 - 2048) = a2 - 2048 := by unfold wrap64; omega
    rw [hw]
    by_cases hl : a2 - 2048 < (l0_3.length : Int)
    · have h0 : 0 ≤ a2 - 2048 := by omega
      rw [if_pos hl, if_pos h0]
      by_cases hm : rd l0_3 (a2 - 2048) = -1
      · rw [if_neg (fun c => c.2 hm), if_pos hm]
        exact ⟨_, rfl, rfl⟩
      · rw [if_pos ⟨hl, hm⟩, if_neg hm]
        exact ⟨_, rfl, rfl⟩
    · rw [if_neg hl, if_neg (fun c => hl c.1)]
      exact ⟨_, rfl, rfl⟩
theorem find_both (l0_0 l0_1 : List Int) (l0_2 : List S45) (l0_3 : List Int) (a0_4 : Int) (l0_5 : List S92) (a0_6 : Int) (l0_7 : List S80) (a0_8 : Int) (a0_9 a1 : ByteArray) (h2 : l0_2.length ≤ 9223372036854775807) (k : Nat) (hk : 2 * l0_2.length + 2 ≤ k) :
    ∃ i b, dict_Find.f l0_0 l0_1 l0_2 l0_3 a0_4 l0_5 a0_6 l0_7 a0_8 a0_9 a1 = some (i, b) ∧ tinderref09_Find.f k l0_0 l0_1 l0_2 l0_3 a0_4 l0_5 a0_6 l0_7 a0_8 a0_9 a1 = some (i, b) := by
  unfold dict_Find.f tinderref09_Find.f
  rw [wrap_prev _ h2, find_from l0_2 h2 a1 _ _ _ _ _ _ _ _ _ l0_2.length (Nat.le_refl _) _ hk, lastP_eq]
  exact ⟨_, _, rfl, rfl⟩
theorem meth_both (l0_0 l0_1 : List Int) (l0_2 : List S45) (l0_3 : List Int) (a0_4 : Int) (l0_5 : List S92) (a0_6 : Int) (l0_7 : List S80) (a0_8 : Int) (a0_9 a1 : ByteArray) (n : Int) (h2 : l0_2.length ≤ 9223372036854775807) (k : Nat) (hk : 2 * l0_2.length + 2 ≤ k) :
    ∃ i b, dict_Method.f l0_0 l0_1 l0_2 l0_3 a0_4 l0_5 a0_6 l0_7 a0_8 a0_9 n a1 = some (i, b) ∧ tinderref09_Method.f k l0_0 l0_1 l0_2 l0_3 a0_4 l0_5 a0_6 l0_7 a0_8 a0_9 n a1 = some (i, b) := by
  unfold dict_Method.f tinderref09_Method.f
  rw [wrap_prev _ h2, meth_from l0_2 h2 n a1 _ _ _ _ _ _ _ _ _ l0_2.length (Nat.le_refl _) _ hk, lastP_eq]
  exact ⟨_, _, rfl, rfl⟩
end Go.Proofs.Ytpalbpakeokimaa.PK
