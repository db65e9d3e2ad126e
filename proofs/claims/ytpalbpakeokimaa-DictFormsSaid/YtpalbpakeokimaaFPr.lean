/- tinder: a part of the proof, joined and pruned by wip/tools/prune.py out of: Pr -/
import Derived.Test.YtpalbpakeokimaaFK54
import Derived.Test.YtpalbpakeokimaaFK56
import Derived.Test.YtpalbpakeokimaaFK57
import Derived.Test.YtpalbpakeokimaaFGs
import Derived.Test.YtpalbpakeokimaaFGi
namespace Go.Proofs.Ytpalbpakeokimaa.PK
open Go.RowKit Go.Proofs.YtpalbpakeokimaaW.PrintWords
set_option linter.unusedVariables false
set_option linter.unusedSimpArgs false
theorem bad0 : bt (⟨#[47, 92, 58, 91, 93, 64]⟩ : ByteArray) 0 = 47 := by decide
theorem bad1 : bt (⟨#[47, 92, 58, 91, 93, 64]⟩ : ByteArray) 1 = 92 := by decide
theorem bad2 : bt (⟨#[47, 92, 58, 91, 93, 64]⟩ : ByteArray) 2 = 58 := by decide
theorem bad3 : bt (⟨#[47, 92, 58, 91, 93, 64]⟩ : ByteArray) 3 = 91 := by decide
theorem bad4 : bt (⟨#[47, 92, 58, 91, 93, 64]⟩ : ByteArray) 4 = 93 := by decide
theorem bad5 : bt (⟨#[47, 92, 58, 91, 93, 64]⟩ : ByteArray) 5 = 64 := by decide
theorem wrapc (a b : Int) (h : a + 1 = b) (h1 : -9223372036854775808 ≤ b) (h2 : b ≤ 9223372036854775807) : wrap64 (a + 1) = b := by
  unfold wrap64
  omega
theorem ref05_l1 (s : ByteArray) (x3 : Int) (b : UInt8) (k : Nat) : tinderref05_Named.l1 (k + 7) s x3 (b.toNat : Int) 0 = if [47, 92, 58, 91, 93, 64].contains b then some false else tinderref05_Named.l0 k s (wrap64 (x3 + 1)) := by
  have e : ∀ c : UInt8, ((b.toNat : Int) = (c.toNat : Int)) ↔ b = c := fun c => ⟨fun h => UInt8.toNat_inj.1 (by omega), fun h => by rw [h]⟩
  have e47 : ((b.toNat : Int) = 47) ↔ b = 47 := e 47
  have e92 : ((b.toNat : Int) = 92) ↔ b = 92 := e 92
  have e58 : ((b.toNat : Int) = 58) ↔ b = 58 := e 58
  have e91 : ((b.toNat : Int) = 91) ↔ b = 91 := e 91
  have e93 : ((b.toNat : Int) = 93) ↔ b = 93 := e 93
  have e64 : ((b.toNat : Int) = 64) ↔ b = 64 := e 64
  simp only [tinderref05_Named.l1, wrapc 0 1 rfl (by omega) (by omega), wrapc 1 2 rfl (by omega) (by omega), wrapc 2 3 rfl (by omega) (by omega), wrapc 3 4 rfl (by omega) (by omega), wrapc 4 5 rfl (by omega) (by omega), wrapc 5 6 rfl (by omega) (by omega), bad0, bad1, bad2, bad3, bad4, bad5]
  clear e
  rw [if_pos (by omega), if_pos (by omega)]
  by_cases h47 : b = 47
  · subst h47; rfl
  rw [if_neg (fun h => h47 (e47.1 h))]
  rw [if_pos (by omega), if_pos (by omega)]
  by_cases h92 : b = 92
  · subst h92; rfl
  rw [if_neg (fun h => h92 (e92.1 h))]
  rw [if_pos (by omega), if_pos (by omega)]
  by_cases h58 : b = 58
  · subst h58; rfl
  rw [if_neg (fun h => h58 (e58.1 h))]
  rw [if_pos (by omega), if_pos (by omega)]
  by_cases h91 : b = 91
  · subst h91; rfl
  rw [if_neg (fun h => h91 (e91.1 h))]
  rw [if_pos (by omega), if_pos (by omega)]
  by_cases h93 : b = 93
  · subst h93; rfl
  rw [if_neg (fun h => h93 (e93.1 h))]
  rw [if_pos (by omega), if_pos (by omega)]
  by_cases h64 : b = 64
  · subst h64; rfl
  rw [if_neg (fun h => h64 (e64.1 h))]
  rw [if_neg (by omega), if_neg]
  simp [h47, h92, h58, h91, h93, h64]
theorem ref05_l0 (s : ByteArray) (hs : s.size ≤ 31) : ∀ (d i : Nat), i + d = s.size → ∀ k, 9 * d + 1 ≤ k → tinderref05_Named.l0 k s (i : Int) = some ((s.data.toList.drop i).all okB) := by
  have hl : s.data.toList.length = s.size := by simp
  intro d
  induction d with
  | zero =>
    intro i hi k hk
    obtain ⟨k, rfl⟩ : ∃ m, k = m + 1 := ⟨k - 1, by omega⟩
    simp only [tinderref05_Named.l0]
    rw [if_neg (by omega), List.drop_eq_nil_of_le (by omega)]
    rfl
  | succ d ih =>
    intro i hi k hk
    obtain ⟨k, rfl⟩ : ∃ m, k = m + 9 := ⟨k - 9, by omega⟩
    have hil : i < s.data.toList.length := by omega
    have ih' := ih (i + 1) (by omega) k (by omega)
    rw [List.drop_eq_getElem_cons hil, List.all_cons]
    simp only [tinderref05_Named.l0]
    rw [if_pos (by omega), if_pos (by omega), bt_get s i hil]
    generalize hb : s.data.toList[i] = b
    have hbt := b.toNat_lt
    have hj : tinderref05_Named.j2 (k + 8) s (i : Int) (b.toNat : Int) true = some false := by simp only [tinderref05_Named.j2]; rfl
    have hf : tinderref05_Named.j2 (k + 8) s (i : Int) (b.toNat : Int) false = if [47, 92, 58, 91, 93, 64].contains b then some false else some ((s.data.toList.drop (i + 1)).all okB) := by
      have e2 : wrap64 ((i : Int) + 1) = ((i + 1 : Nat) : Int) := by unfold wrap64; omega
      simp only [tinderref05_Named.j2, Bool.false_eq_true, if_false]
      rw [ref05_l1, e2, ih']
    by_cases h1 : (b.toNat : Int) < 33
    · rw [if_pos h1, hj]
      have : okB b = false := by simp [okB]; omega
      rw [this]; rfl
    rw [if_neg h1]
    by_cases h2 : (b.toNat : Int) > 126
    · rw [if_pos h2, hj]
      have : okB b = false := by simp [okB]; omega
      rw [this]; rfl
    rw [if_neg h2]
    have hok : okB b = (!(decide (65 ≤ b.toNat) && decide (b.toNat ≤ 90)) && !([47, 92, 58, 91, 93, 64].contains b)) := by
      unfold okB
      rw [decide_eq_true (show 33 ≤ b.toNat by omega), decide_eq_true (show b.toNat ≤ 126 by omega)]
      rfl
    by_cases h3 : (b.toNat : Int) ≥ 65
    · rw [if_pos h3]
      by_cases h4 : (b.toNat : Int) ≤ 90
      · rw [decide_eq_true h4, hj]
        have : okB b = false := by rw [hok, decide_eq_true (show 65 ≤ b.toNat by omega), decide_eq_true (show b.toNat ≤ 90 by omega)]; rfl
        rw [this]; rfl
      · rw [decide_eq_false h4, hf, hok, decide_eq_false (show ¬ b.toNat ≤ 90 by omega)]
        cases [47, 92, 58, 91, 93, 64].contains b <;> simp
    · rw [if_neg h3, hf, hok, decide_eq_false (show ¬ 65 ≤ b.toNat by omega)]
      cases [47, 92, 58, 91, 93, 64].contains b <;> simp
theorem ref05_named (s : ByteArray) : ∃ k, tinderref05_Named.f k s = some (propNamedB s) := by
  refine ⟨9 * s.size + 1 + 1, ?_⟩
  unfold tinderref05_Named.f propNamedB
  by_cases h0 : (s.size : Int) < 1
  · rw [if_pos h0, decide_eq_false (show ¬ 1 ≤ s.size by omega)]
    rfl
  · rw [if_neg h0, decide_eq_true (show 1 ≤ s.size by omega)]
    by_cases h1 : (s.size : Int) > 31
    · rw [decide_eq_true h1, decide_eq_false (show ¬ s.size ≤ 31 by omega)]
      rfl
    · rw [decide_eq_false h1, decide_eq_true (show s.size ≤ 31 by omega)]
      have := ref05_l0 s (by omega) s.size 0 (by omega) (9 * s.size + 1) (Nat.le_refl _)
      simp only [tinderref05_Named.j0, Bool.false_eq_true, if_false]
      exact this
theorem named75 (s : ByteArray) (W : World) : Calls Try.prog 75 #[.string s] W fun e w' => e = .returned (.bool (propNamedB s)) ∧ ∃ m, w' = W.drewN m := by
  obtain ⟨k, hk⟩ := ref05_named s
  exact (tinderref05_Named.calls k s _ W hk).mono fun e w' ⟨he, hw⟩ => ⟨he, hw.out⟩
theorem same03_any (l u : List Int) (hl : l.length ≤ 9223372036854775807) : tinderref03_Same.f (l.length + 1) l u = some (decide (l = u)) := by
  unfold tinderref03_Same.f
  by_cases h : (l.length : Int) = (u.length : Int)
  · rw [if_pos h]
    have key : ∀ (d i : Nat), i + d = l.length → l.take i = u.take i → tinderref03_Same.l0 (d + 1) l u (i : Int) = some (decide (l = u)) := by
      intro d
      induction d with
      | zero =>
        intro i hi ht
        unfold tinderref03_Same.l0
        rw [if_neg (by omega)]
        rw [List.take_of_length_le (by omega), List.take_of_length_le (by omega)] at ht
        rw [decide_eq_true ht]
      | succ d ih =>
        intro i hi ht
        unfold tinderref03_Same.l0
        rw [if_pos (by omega), if_pos (by omega), if_pos (by omega)]
        have hw : wrap64 ((i : Int) + 1) = ((i + 1 : Nat) : Int) := by unfold wrap64; omega
        by_cases he : rd l (i : Int) = rd u (i : Int)
        · rw [if_pos he, hw]
          exact ih (i + 1) (by omega) (take_succ_eq (by omega) (by omega) ht he)
        · rw [if_neg he, ne_of_rd (by omega) (by omega) he]
    exact key l.length 0 (by omega) rfl
  · rw [if_neg h]
    have : ¬ l = u := fun e => h (by rw [e])
    rw [decide_eq_false this]
theorem rd92_at {l : List S92} {i : Nat} (h : i < l.length) : rd_T92 l (i : Int) = l[i] := by
  unfold rd_T92
  rw [List.getD_eq_getElem?_getD, show ((i : Int)).toNat = i from by omega, List.getElem?_eq_getElem h]
  rfl
theorem rd102_at {l : List S102} {i : Nat} (h : i < l.length) : rd_T102 l (i : Int) = l[i] := by
  unfold rd_T102
  rw [List.getD_eq_getElem?_getD, show ((i : Int)).toNat = i from by omega, List.getElem?_eq_getElem h]
  rfl
theorem twin_l0 (l : List S92) (n : Nat) (hn : n ≤ l.length) (hn2 : n ≤ 9223372036854775807) (p : Int) (s : ByteArray) (u : List Int) (hmx : ∀ x ∈ l, x.f1.length ≤ 9223372036854775807) (M : Nat) (hM : ∀ x ∈ l, x.f1.length ≤ M) : ∀ (d i : Nat), i + d = n → ∀ k, d + M + 2 ≤ k → tinderref08_twin.l0 k l (n : Int) p s u (i : Int) = some (((l.take n).drop i).any (isB p s u)) := by
  intro d
  induction d with
  | zero =>
    intro i hi k hk
    obtain ⟨k', rfl⟩ : ∃ k', k = k' + 1 := ⟨k - 1, by omega⟩
    unfold tinderref08_twin.l0
    rw [if_neg (by omega), List.drop_eq_nil_of_le (by rw [List.length_take]; omega)]
    rfl
  | succ d ih =>
    intro i hi k hk
    obtain ⟨k', rfl⟩ : ∃ k', k = k' + 1 := ⟨k - 1, by omega⟩
    unfold tinderref08_twin.l0
    have hil : i < l.length := by omega
    have hlt : i < (l.take n).length := by rw [List.length_take]; omega
    rw [if_pos (by omega), if_pos (by omega), if_pos (by omega), rd92_at hil, List.drop_eq_getElem_cons hlt, List.any_cons, List.getElem_take]
    have hw : wrap64 ((i : Int) + 1) = ((i + 1 : Nat) : Int) := by unfold wrap64; omega
    have ih' := ih (i + 1) (by omega) k' (by omega)
    rw [hw, ih']
    have hm := List.getElem_mem hil
    generalize l[i] = x at *
    by_cases h2 : x.f2 = p
    · rw [if_pos h2]
      by_cases h0 : x.f0.toList = s.toList
      · rw [if_pos h0]
        have hs := at_rounds (fun j => tinderref03_Same.mono _ _ j) (show x.f1.length + 1 ≤ k' by have := hM x hm; omega) (same03_any x.f1 u (hmx x hm))
        rw [hs, Option.bind_some]
        have e : isB p s u x = decide (x.f1 = u) := by unfold isB; rw [h2, h0]; simp
        rw [e]
        cases decide (x.f1 = u) <;> rfl
      · rw [if_neg h0]
        have e : isB p s u x = false := by unfold isB; simp [h0]
        rw [e]; rfl
    · rw [if_neg h2]
      have e : isB p s u x = false := by unfold isB; simp [h2]
      rw [e]; rfl
theorem find_l0 (l : List S102) (hl : l.length ≤ 9223372036854775807) (s : ByteArray) : ∀ (d i : Nat), i + d = l.length → ∀ k, d + 1 ≤ k → ∃ r, tinderref08_find.l0 k l s (i : Int) = some r ∧ decide (0 ≤ r) = (l.drop i).any (fun q => q.f0.toList == s.toList) := by
  intro d
  induction d with
  | zero =>
    intro i hi k hk
    obtain ⟨k', rfl⟩ : ∃ k', k = k' + 1 := ⟨k - 1, by omega⟩
    unfold tinderref08_find.l0
    rw [if_neg (by omega), List.drop_eq_nil_of_le (by omega)]
    exact ⟨-1, rfl, rfl⟩
  | succ d ih =>
    intro i hi k hk
    obtain ⟨k', rfl⟩ : ∃ k', k = k' + 1 := ⟨k - 1, by omega⟩
    unfold tinderref08_find.l0
    have hil : i < l.length := by omega
    have hw : wrap64 ((i : Int) + 1) = ((i + 1 : Nat) : Int) := by unfold wrap64; omega
    rw [if_pos (by omega), if_pos (by omega), rd102_at hil, List.drop_eq_getElem_cons hil, List.any_cons, hw]
    by_cases h : l[i].f0.toList = s.toList
    · rw [if_pos h]
      exact ⟨_, rfl, by rw [decide_eq_true (show (0 : Int) ≤ (i : Int) by omega), beq_iff_eq.2 h]; rfl⟩
    · rw [if_neg h, show (l[i].f0.toList == s.toList) = false from beq_eq_false_iff_ne.2 h, Bool.false_or]
      exact ih (i + 1) (by omega) k' (by omega)
theorem find77 (l : List S102) (hl : l.length ≤ 9223372036854775807) (s : ByteArray) : ∃ r : Int, decide (0 ≤ r) = l.any (fun q => q.f0.toList == s.toList) ∧ ∀ (A : Option Addr) (c : Nat) (W : World), Kd.C k102 W A l.length l → l.length ≤ c → Calls Try.prog 77 #[.slice A l.length c, .string s] W (fun e w' => e = .returned (.int .i64 r) ∧ ∃ m, w' = W.drewN m) := by
  obtain ⟨r, h1, h2⟩ := find_l0 l hl s l.length 0 (by omega) (l.length + 1) (Nat.le_refl _)
  exact ⟨r, h2, fun A c W hr hc => (tinderref08_find.calls (l.length + 1) A c l s r W hr hc h1).mono fun e w' ⟨he, hw⟩ => ⟨he, hw.out⟩⟩
theorem twin76 (l : List S92) (n : Nat) (hn : n ≤ l.length) (p : Int) (s : ByteArray) (u : List Int) (A : Option Addr) (c : Nat) (B : Option Addr) (d : Nat) (W : World) (hr : Kd.C k92 W A l.length l) (hc : l.length ≤ c) (hu : Kd.C (Kd.int .u32) W B u.length u) (hd : u.length ≤ d) :
    Calls Try.prog 76 #[.slice A l.length c, .int .i64 (n : Int), .int .i64 p, .string s, .slice B u.length d] W fun e w' => e = .returned (.bool ((l.take n).any (isB p s u))) ∧ ∃ m, w' = W.drewN m := by
  have hm : ∀ x ∈ l, x.f1.length ≤ 9223372036854775807 := fun x hx => by
    obtain ⟨i, hi, rfl⟩ := List.mem_iff_getElem.1 hx
    obtain ⟨ad, A1, c1, A3, c3, A4, c4, e, _, _, _, _, _, i1, g1, _⟩ := at_T92 hr (i : Int) (by omega) (by omega)
    rw [rd92_at hi] at g1
    exact g1.2.1
  have h := twin_l0 l n hn (by have := hr.2.1; omega) p s u hm 9223372036854775807 hm n 0 (by omega) (n + 9223372036854775807 + 2) (Nat.le_refl _)
  exact (tinderref08_twin.calls (n + 9223372036854775807 + 2) A c l (n : Int) p s B d u _ W hr hc hu hd h).mono fun e w' ⟨he, hw⟩ => ⟨he, hw.out⟩
end Go.Proofs.Ytpalbpakeokimaa.PK
