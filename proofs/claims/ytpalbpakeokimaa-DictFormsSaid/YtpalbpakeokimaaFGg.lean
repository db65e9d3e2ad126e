/- tinder: a part of the proof, joined and pruned by wip/tools/prune.py out of: Gg -/
import Derived.Test.YtpalbpakeokimaaFK0
import Derived.Lib.SliceRun
namespace Go.Proofs.Ytpalbpakeokimaa.PK
set_option linter.unusedVariables false
set_option linter.unusedSimpArgs false
open Go.RowKit Go.Proofs.YtpalbpakeokimaaW.PrintWords Go.Proofs.YtpalbpakeokimaaW.PrintLast Go.Proofs.YtpalbpakeokimaaW.PrintMore
theorem C_cells {α : Type} {d : Kd α} {w : World} {ad : Addr} {l : List α} (h : Kd.C d w (some ad) l.length l) : ∃ inner, Reps (d.K w) d.sz l inner ∧ (∀ u ∈ inner, u.oneCell' = true) ∧ ∀ j u, inner[j]? = some u → w.cell? (ad.add j) = some u := by
  have key : ∀ m, m ≤ l.length → ∃ inner, Reps (d.K w) d.sz (l.take m) inner ∧ (∀ u ∈ inner, u.oneCell' = true) ∧ ∀ j u, inner[j]? = some u → w.cell? (ad.add j) = some u := by
    intro m
    induction m with
    | zero => intro _; exact ⟨[], Reps.none _ _, by simp, fun j u hj => by simp at hj⟩
    | succ m ih =>
      intro hm
      obtain ⟨inner, h1, h2, h3⟩ := ih (by omega)
      obtain ⟨ad', e, hc⟩ := h.2.2 (by omega)
      cases e
      obtain ⟨c, hl, hk, hcell⟩ := hc m _ (List.getElem?_eq_getElem (show m < l.length by omega))
      have ht : l.take (m + 1) = l.take m ++ [l[m]'(by omega)] := by
        rw [List.take_succ_eq_append_getElem (by omega)]
      have hil : inner.length = m * d.sz := by have := h1.1; rw [List.length_take, Nat.min_eq_left (by omega)] at this; exact this
      refine ⟨inner ++ c, by rw [ht]; exact Reps.snoc h1 hk hl, fun u hu => ?_, fun j u hj => ?_⟩
      · rcases List.mem_append.1 hu with hu | hu
        · exact h2 u hu
        · exact d.K_one hk u hu
      · by_cases hjl : j < inner.length
        · rw [List.getElem?_append_left hjl] at hj
          exact h3 j u hj
        · rw [List.getElem?_append_right (by omega), hil] at hj
          have := hcell _ u hj
          rw [show m * d.sz + (j - m * d.sz) = j by omega] at this
          exact this
  have := key l.length (Nat.le_refl _)
  rwa [List.take_length] at this
theorem info31g : (Try.prog.info? 31).map (fun i => (i.zero, i.size, i.bytes)) = some (some (.int .u32 0), 1, 4) := by kernel_rfl
set_option maxHeartbeats 4000000 in
set_option maxRecDepth 100000 in
theorem clone48 (A0 : Option Addr) (c0 : Nat) (l0 : List Int) (w0 w : World) (hr0 : Kd.C (Kd.int .u32) w0 A0 l0.length l0) (hb0 : Below w0.heap.size w0 w) (hc0 : l0.length ≤ c0) (hb : l0.length * 4 ≤ 140737488355328) :
    Calls Try.prog 48 #[.slice A0 l0.length c0] w fun e w' => ∃ v inner, e = .returned v ∧ w'.ownsRow w.heap.size 31 1 v l0.length inner ∧ Reps (Kd.K (Kd.int .u32) w0) 1 l0 inner ∧ Below w.heap.size w w' := by
  have q : ∀ (w : World) (a : Option Addr) (n c n' c' : Nat), (binOp .eql 27 (.slice a n c) (.slice none n' c')).run Try.prog w = .ok (.bool a.isNone) w := fun w a n c n' c' => Lib.run_eql_slice_nil w _ _ a n c n' c' Try.underlying27
  cases A0 with
  | none =>
    have hl : l0 = [] := by
      cases l0 with
      | nil => rfl
      | cons x xs =>
        obtain ⟨ad, e, _⟩ := hr0.2.2 (by simp)
        cases e
    subst hl
    clear hr0 hc0
    go_enter Try.func48, Try.ntmps48
    go_wp2
    go_ret
    exact ⟨_, [], rfl, own_nil _ _ _ _, Reps.none _ _, Below.refl _ _⟩
  | some ad =>
    obtain ⟨i0, hi, hz0, hz1, hz2⟩ := info_parts info31g
    obtain ⟨news, h1, h2, h3⟩ := C_cells hr0
    have hmx := hr0.2.1
    have A := Aside0.mk h3
    have A1 := Aside0.mk h1
    clear h1 h3 hr0 hc0
    go_enter Try.func48, Try.ntmps48
    go_wp2_with (at_builtin; refine wpList_append_own _ rfl _ _ 27 rfl w.heap.size 31 i0 _ 1 4 Try.underlying27 hi hz0 hz1 hz2 rfl (by omega) _ _ _ rfl (World.ownsRow_made w #[] 0 (Nat.le_refl _) (Nat.zero_le _) (by simp)) ad l0.length c0 news rfl ?qc1 ?qc2 ?qc3 ?qc4 ?qc5 ?qc6 ?_)
    case qc1 => exact A1.out.1
    case qc2 =>
      intro j u hj
      exact Lib.cell?_alloc_some _ ((hb0.cell (World.block_lt_of_cell? _ _ (A.out j u hj))).trans (A.out j u hj))
    case qc3 => exact h2
    case qc4 => rw [Nat.zero_add]; unfold maxLen; omega
    case qc5 => rw [Nat.zero_add]; exact hb
    case qc6 => simp
    intro v' w1 hown hgrow hnil
    go_wp2
    go_ret
    exact ⟨v', news, rfl, by simpa using hown, A1.out, ((Below.refl _ w).alloc (Nat.le_refl _) _).grown hgrow (by simp) (by intro k hk; simp [Value.ownBlock] at hk; omega)⟩
theorem info5g : (Try.prog.info? 5).map (fun i => (i.zero, i.size, i.bytes)) = some (some (.int .u8 0), 1, 1) := by kernel_rfl
set_option maxHeartbeats 4000000 in
set_option maxRecDepth 100000 in
theorem clone49 (A0 : Option Addr) (c0 : Nat) (l0 : List Int) (w0 w : World) (hr0 : Kd.C (Kd.int .u8) w0 A0 l0.length l0) (hb0 : Below w0.heap.size w0 w) (hc0 : l0.length ≤ c0) (hb : l0.length * 1 ≤ 140737488355328) :
    Calls Try.prog 49 #[.slice A0 l0.length c0] w fun e w' => ∃ v inner, e = .returned v ∧ w'.ownsRow w.heap.size 5 1 v l0.length inner ∧ Reps (Kd.K (Kd.int .u8) w0) 1 l0 inner ∧ Below w.heap.size w w' := by
  have q : ∀ (w : World) (a : Option Addr) (n c n' c' : Nat), (binOp .eql 28 (.slice a n c) (.slice none n' c')).run Try.prog w = .ok (.bool a.isNone) w := fun w a n c n' c' => Lib.run_eql_slice_nil w _ _ a n c n' c' Try.underlying28
  cases A0 with
  | none =>
    have hl : l0 = [] := by
      cases l0 with
      | nil => rfl
      | cons x xs =>
        obtain ⟨ad, e, _⟩ := hr0.2.2 (by simp)
        cases e
    subst hl
    clear hr0 hc0
    go_enter Try.func49, Try.ntmps49
    go_wp2
    go_ret
    exact ⟨_, [], rfl, own_nil _ _ _ _, Reps.none _ _, Below.refl _ _⟩
  | some ad =>
    obtain ⟨i0, hi, hz0, hz1, hz2⟩ := info_parts info5g
    obtain ⟨news, h1, h2, h3⟩ := C_cells hr0
    have hmx := hr0.2.1
    have A := Aside0.mk h3
    have A1 := Aside0.mk h1
    clear h1 h3 hr0 hc0
    go_enter Try.func49, Try.ntmps49
    go_wp2_with (at_builtin; refine wpList_append_own _ rfl _ _ 28 rfl w.heap.size 5 i0 _ 1 1 Try.underlying28 hi hz0 hz1 hz2 rfl (by omega) _ _ _ rfl (World.ownsRow_made w #[] 0 (Nat.le_refl _) (Nat.zero_le _) (by simp)) ad l0.length c0 news rfl ?qc1 ?qc2 ?qc3 ?qc4 ?qc5 ?qc6 ?_)
    case qc1 => exact A1.out.1
    case qc2 =>
      intro j u hj
      exact Lib.cell?_alloc_some _ ((hb0.cell (World.block_lt_of_cell? _ _ (A.out j u hj))).trans (A.out j u hj))
    case qc3 => exact h2
    case qc4 => rw [Nat.zero_add]; unfold maxLen; omega
    case qc5 => rw [Nat.zero_add]; exact hb
    case qc6 => simp
    intro v' w1 hown hgrow hnil
    go_wp2
    go_ret
    exact ⟨v', news, rfl, by simpa using hown, A1.out, ((Below.refl _ w).alloc (Nat.le_refl _) _).grown hgrow (by simp) (by intro k hk; simp [Value.ownBlock] at hk; omega)⟩
theorem info3g : (Try.prog.info? 3).map (fun i => (i.zero, i.size, i.bytes)) = some (some (.int .i64 0), 1, 8) := by kernel_rfl
set_option maxHeartbeats 4000000 in
set_option maxRecDepth 100000 in
theorem clone50 (A0 : Option Addr) (c0 : Nat) (l0 : List Int) (w0 w : World) (hr0 : Kd.C (Kd.int .i64) w0 A0 l0.length l0) (hb0 : Below w0.heap.size w0 w) (hc0 : l0.length ≤ c0) (hb : l0.length * 8 ≤ 140737488355328) :
    Calls Try.prog 50 #[.slice A0 l0.length c0] w fun e w' => ∃ v inner, e = .returned v ∧ w'.ownsRow w.heap.size 3 1 v l0.length inner ∧ Reps (Kd.K (Kd.int .i64) w0) 1 l0 inner ∧ Below w.heap.size w w' := by
  have q : ∀ (w : World) (a : Option Addr) (n c n' c' : Nat), (binOp .eql 30 (.slice a n c) (.slice none n' c')).run Try.prog w = .ok (.bool a.isNone) w := fun w a n c n' c' => Lib.run_eql_slice_nil w _ _ a n c n' c' Try.underlying30
  cases A0 with
  | none =>
    have hl : l0 = [] := by
      cases l0 with
      | nil => rfl
      | cons x xs =>
        obtain ⟨ad, e, _⟩ := hr0.2.2 (by simp)
        cases e
    subst hl
    clear hr0 hc0
    go_enter Try.func50, Try.ntmps50
    go_wp2
    go_ret
    exact ⟨_, [], rfl, own_nil _ _ _ _, Reps.none _ _, Below.refl _ _⟩
  | some ad =>
    obtain ⟨i0, hi, hz0, hz1, hz2⟩ := info_parts info3g
    obtain ⟨news, h1, h2, h3⟩ := C_cells hr0
    have hmx := hr0.2.1
    have A := Aside0.mk h3
    have A1 := Aside0.mk h1
    clear h1 h3 hr0 hc0
    go_enter Try.func50, Try.ntmps50
    go_wp2_with (at_builtin; refine wpList_append_own _ rfl _ _ 30 rfl w.heap.size 3 i0 _ 1 8 Try.underlying30 hi hz0 hz1 hz2 rfl (by omega) _ _ _ rfl (World.ownsRow_made w #[] 0 (Nat.le_refl _) (Nat.zero_le _) (by simp)) ad l0.length c0 news rfl ?qc1 ?qc2 ?qc3 ?qc4 ?qc5 ?qc6 ?_)
    case qc1 => exact A1.out.1
    case qc2 =>
      intro j u hj
      exact Lib.cell?_alloc_some _ ((hb0.cell (World.block_lt_of_cell? _ _ (A.out j u hj))).trans (A.out j u hj))
    case qc3 => exact h2
    case qc4 => rw [Nat.zero_add]; unfold maxLen; omega
    case qc5 => rw [Nat.zero_add]; exact hb
    case qc6 => simp
    intro v' w1 hown hgrow hnil
    go_wp2
    go_ret
    exact ⟨v', news, rfl, by simpa using hown, A1.out, ((Below.refl _ w).alloc (Nat.le_refl _) _).grown hgrow (by simp) (by intro k hk; simp [Value.ownBlock] at hk; omega)⟩
theorem info57g : (Try.prog.info? 57).map (fun i => (i.zero, i.size, i.bytes)) = some (some (.agg #[.int .i64 0, .int .u32 0]), 2, 16) := by kernel_rfl
set_option maxHeartbeats 4000000 in
set_option maxRecDepth 100000 in
theorem clone54 (A0 : Option Addr) (c0 : Nat) (l0 : List S57) (w0 w : World) (hr0 : Kd.C k57 w0 A0 l0.length l0) (hb0 : Below w0.heap.size w0 w) (hc0 : l0.length ≤ c0) (hb : l0.length * 16 ≤ 140737488355328) :
    Calls Try.prog 54 #[.slice A0 l0.length c0] w fun e w' => ∃ v inner, e = .returned v ∧ w'.ownsRow w.heap.size 57 2 v l0.length inner ∧ Reps (Kd.K k57 w0) 2 l0 inner ∧ Below w.heap.size w w' := by
  have q : ∀ (w : World) (a : Option Addr) (n c n' c' : Nat), (binOp .eql 22 (.slice a n c) (.slice none n' c')).run Try.prog w = .ok (.bool a.isNone) w := fun w a n c n' c' => Lib.run_eql_slice_nil w _ _ a n c n' c' Try.underlying22
  cases A0 with
  | none =>
    have hl : l0 = [] := by
      cases l0 with
      | nil => rfl
      | cons x xs =>
        obtain ⟨ad, e, _⟩ := hr0.2.2 (by simp)
        cases e
    subst hl
    clear hr0 hc0
    go_enter Try.func54, Try.ntmps54
    go_wp2
    go_ret
    exact ⟨_, [], rfl, own_nil _ _ _ _, Reps.none _ _, Below.refl _ _⟩
  | some ad =>
    obtain ⟨i0, hi, hz0, hz1, hz2⟩ := info_parts info57g
    obtain ⟨news, h1, h2, h3⟩ := C_cells hr0
    have hmx := hr0.2.1
    have A := Aside0.mk h3
    have A1 := Aside0.mk h1
    clear h1 h3 hr0 hc0
    go_enter Try.func54, Try.ntmps54
    go_wp2_with (at_builtin; refine wpList_append_own _ rfl _ _ 22 rfl w.heap.size 57 i0 _ 2 16 Try.underlying22 hi hz0 hz1 hz2 rfl (by omega) _ _ _ rfl (World.ownsRow_made w #[] 0 (Nat.le_refl _) (Nat.zero_le _) (by simp)) ad l0.length c0 news rfl ?qc1 ?qc2 ?qc3 ?qc4 ?qc5 ?qc6 ?_)
    case qc1 => exact A1.out.1
    case qc2 =>
      intro j u hj
      exact Lib.cell?_alloc_some _ ((hb0.cell (World.block_lt_of_cell? _ _ (A.out j u hj))).trans (A.out j u hj))
    case qc3 => exact h2
    case qc4 => rw [Nat.zero_add]; unfold maxLen; omega
    case qc5 => rw [Nat.zero_add]; exact hb
    case qc6 => simp
    intro v' w1 hown hgrow hnil
    go_wp2
    go_ret
    exact ⟨v', news, rfl, by simpa using hown, A1.out, ((Below.refl _ w).alloc (Nat.le_refl _) _).grown hgrow (by simp) (by intro k hk; simp [Value.ownBlock] at hk; omega)⟩
theorem info45g : (Try.prog.info? 45).map (fun i => (i.zero, i.size, i.bytes)) = some (some (.agg #[.string ⟨#[]⟩, .int .i64 0, .int .i64 0, .int .u32 0, .slice none 0 0]), 5, 64) := by kernel_rfl
set_option maxHeartbeats 4000000 in
set_option maxRecDepth 100000 in
theorem clone51 (A0 : Option Addr) (c0 : Nat) (l0 : List S45) (w0 w : World) (hr0 : Kd.C k45 w0 A0 l0.length l0) (hb0 : Below w0.heap.size w0 w) (hc0 : l0.length ≤ c0) (hb : l0.length * 64 ≤ 140737488355328) :
    Calls Try.prog 51 #[.slice A0 l0.length c0] w fun e w' => ∃ v inner, e = .returned v ∧ w'.ownsRow w.heap.size 45 5 v l0.length inner ∧ Reps (Kd.K k45 w0) 5 l0 inner ∧ Below w.heap.size w w' := by
  have q : ∀ (w : World) (a : Option Addr) (n c n' c' : Nat), (binOp .eql 29 (.slice a n c) (.slice none n' c')).run Try.prog w = .ok (.bool a.isNone) w := fun w a n c n' c' => Lib.run_eql_slice_nil w _ _ a n c n' c' Try.underlying29
  cases A0 with
  | none =>
    have hl : l0 = [] := by
      cases l0 with
      | nil => rfl
      | cons x xs =>
        obtain ⟨ad, e, _⟩ := hr0.2.2 (by simp)
        cases e
    subst hl
    clear hr0 hc0
    go_enter Try.func51, Try.ntmps51
    go_wp2
    go_ret
    exact ⟨_, [], rfl, own_nil _ _ _ _, Reps.none _ _, Below.refl _ _⟩
  | some ad =>
    obtain ⟨i0, hi, hz0, hz1, hz2⟩ := info_parts info45g
    obtain ⟨news, h1, h2, h3⟩ := C_cells hr0
    have hmx := hr0.2.1
    have A := Aside0.mk h3
    have A1 := Aside0.mk h1
    clear h1 h3 hr0 hc0
    go_enter Try.func51, Try.ntmps51
    go_wp2_with (at_builtin; refine wpList_append_own _ rfl _ _ 29 rfl w.heap.size 45 i0 _ 5 64 Try.underlying29 hi hz0 hz1 hz2 rfl (by omega) _ _ _ rfl (World.ownsRow_made w #[] 0 (Nat.le_refl _) (Nat.zero_le _) (by simp)) ad l0.length c0 news rfl ?qc1 ?qc2 ?qc3 ?qc4 ?qc5 ?qc6 ?_)
    case qc1 => exact A1.out.1
    case qc2 =>
      intro j u hj
      exact Lib.cell?_alloc_some _ ((hb0.cell (World.block_lt_of_cell? _ _ (A.out j u hj))).trans (A.out j u hj))
    case qc3 => exact h2
    case qc4 => rw [Nat.zero_add]; unfold maxLen; omega
    case qc5 => rw [Nat.zero_add]; exact hb
    case qc6 => simp
    intro v' w1 hown hgrow hnil
    go_wp2
    go_ret
    exact ⟨v', news, rfl, by simpa using hown, A1.out, ((Below.refl _ w).alloc (Nat.le_refl _) _).grown hgrow (by simp) (by intro k hk; simp [Value.ownBlock] at hk; omega)⟩
theorem info80g : (Try.prog.info? 80).map (fun i => (i.zero, i.size, i.bytes)) = some (some (.agg #[.int .i64 0, .int .i64 0, .string ⟨#[]⟩, .slice none 0 0]), 4, 56) := by kernel_rfl
set_option maxHeartbeats 4000000 in
set_option maxRecDepth 100000 in
theorem clone52 (A0 : Option Addr) (c0 : Nat) (l0 : List S80) (w0 w : World) (hr0 : Kd.C k80 w0 A0 l0.length l0) (hb0 : Below w0.heap.size w0 w) (hc0 : l0.length ≤ c0) (hb : l0.length * 56 ≤ 140737488355328) :
    Calls Try.prog 52 #[.slice A0 l0.length c0] w fun e w' => ∃ v inner, e = .returned v ∧ w'.ownsRow w.heap.size 80 4 v l0.length inner ∧ Reps (Kd.K k80 w0) 4 l0 inner ∧ Below w.heap.size w w' := by
  have q : ∀ (w : World) (a : Option Addr) (n c n' c' : Nat), (binOp .eql 33 (.slice a n c) (.slice none n' c')).run Try.prog w = .ok (.bool a.isNone) w := fun w a n c n' c' => Lib.run_eql_slice_nil w _ _ a n c n' c' Try.underlying33
  cases A0 with
  | none =>
    have hl : l0 = [] := by
      cases l0 with
      | nil => rfl
      | cons x xs =>
        obtain ⟨ad, e, _⟩ := hr0.2.2 (by simp)
        cases e
    subst hl
    clear hr0 hc0
    go_enter Try.func52, Try.ntmps52
    go_wp2
    go_ret
    exact ⟨_, [], rfl, own_nil _ _ _ _, Reps.none _ _, Below.refl _ _⟩
  | some ad =>
    obtain ⟨i0, hi, hz0, hz1, hz2⟩ := info_parts info80g
    obtain ⟨news, h1, h2, h3⟩ := C_cells hr0
    have hmx := hr0.2.1
    have A := Aside0.mk h3
    have A1 := Aside0.mk h1
    clear h1 h3 hr0 hc0
    go_enter Try.func52, Try.ntmps52
    go_wp2_with (at_builtin; refine wpList_append_own _ rfl _ _ 33 rfl w.heap.size 80 i0 _ 4 56 Try.underlying33 hi hz0 hz1 hz2 rfl (by omega) _ _ _ rfl (World.ownsRow_made w #[] 0 (Nat.le_refl _) (Nat.zero_le _) (by simp)) ad l0.length c0 news rfl ?qc1 ?qc2 ?qc3 ?qc4 ?qc5 ?qc6 ?_)
    case qc1 => exact A1.out.1
    case qc2 =>
      intro j u hj
      exact Lib.cell?_alloc_some _ ((hb0.cell (World.block_lt_of_cell? _ _ (A.out j u hj))).trans (A.out j u hj))
    case qc3 => exact h2
    case qc4 => rw [Nat.zero_add]; unfold maxLen; omega
    case qc5 => rw [Nat.zero_add]; exact hb
    case qc6 => simp
    intro v' w1 hown hgrow hnil
    go_wp2
    go_ret
    exact ⟨v', news, rfl, by simpa using hown, A1.out, ((Below.refl _ w).alloc (Nat.le_refl _) _).grown hgrow (by simp) (by intro k hk; simp [Value.ownBlock] at hk; omega)⟩
theorem info92g : (Try.prog.info? 92).map (fun i => (i.zero, i.size, i.bytes)) = some (some (.agg #[.string ⟨#[]⟩, .slice none 0 0, .int .i64 0, .slice none 0 0, .slice none 0 0]), 5, 96) := by kernel_rfl
set_option maxHeartbeats 4000000 in
set_option maxRecDepth 100000 in
theorem clone83 (A0 : Option Addr) (c0 : Nat) (l0 : List S92) (w0 w : World) (hr0 : Kd.C k92 w0 A0 l0.length l0) (hb0 : Below w0.heap.size w0 w) (hc0 : l0.length ≤ c0) (hb : l0.length * 96 ≤ 140737488355328) :
    Calls Try.prog 83 #[.slice A0 l0.length c0] w fun e w' => ∃ v inner, e = .returned v ∧ w'.ownsRow w.heap.size 92 5 v l0.length inner ∧ Reps (Kd.K k92 w0) 5 l0 inner ∧ Below w.heap.size w w' := by
  have q : ∀ (w : World) (a : Option Addr) (n c n' c' : Nat), (binOp .eql 32 (.slice a n c) (.slice none n' c')).run Try.prog w = .ok (.bool a.isNone) w := fun w a n c n' c' => Lib.run_eql_slice_nil w _ _ a n c n' c' Try.underlying32
  cases A0 with
  | none =>
    have hl : l0 = [] := by
      cases l0 with
      | nil => rfl
      | cons x xs =>
        obtain ⟨ad, e, _⟩ := hr0.2.2 (by simp)
        cases e
    subst hl
    clear hr0 hc0
    go_enter Try.func83, Try.ntmps83
    go_wp2
    go_ret
    exact ⟨_, [], rfl, own_nil _ _ _ _, Reps.none _ _, Below.refl _ _⟩
  | some ad =>
    obtain ⟨i0, hi, hz0, hz1, hz2⟩ := info_parts info92g
    obtain ⟨news, h1, h2, h3⟩ := C_cells hr0
    have hmx := hr0.2.1
    have A := Aside0.mk h3
    have A1 := Aside0.mk h1
    clear h1 h3 hr0 hc0
    go_enter Try.func83, Try.ntmps83
    go_wp2_with (at_builtin; refine wpList_append_own _ rfl _ _ 32 rfl w.heap.size 92 i0 _ 5 96 Try.underlying32 hi hz0 hz1 hz2 rfl (by omega) _ _ _ rfl (World.ownsRow_made w #[] 0 (Nat.le_refl _) (Nat.zero_le _) (by simp)) ad l0.length c0 news rfl ?qc1 ?qc2 ?qc3 ?qc4 ?qc5 ?qc6 ?_)
    case qc1 => exact A1.out.1
    case qc2 =>
      intro j u hj
      exact Lib.cell?_alloc_some _ ((hb0.cell (World.block_lt_of_cell? _ _ (A.out j u hj))).trans (A.out j u hj))
    case qc3 => exact h2
    case qc4 => rw [Nat.zero_add]; unfold maxLen; omega
    case qc5 => rw [Nat.zero_add]; exact hb
    case qc6 => simp
    intro v' w1 hown hgrow hnil
    go_wp2
    go_ret
    exact ⟨v', news, rfl, by simpa using hown, A1.out, ((Below.refl _ w).alloc (Nat.le_refl _) _).grown hgrow (by simp) (by intro k hk; simp [Value.ownBlock] at hk; omega)⟩
theorem info102g : (Try.prog.info? 102).map (fun i => (i.zero, i.size, i.bytes)) = some (some (.agg #[.string ⟨#[]⟩, .slice none 0 0]), 2, 40) := by kernel_rfl
set_option maxHeartbeats 4000000 in
set_option maxRecDepth 100000 in
theorem clone84 (A0 : Option Addr) (c0 : Nat) (l0 : List S102) (w0 w : World) (hr0 : Kd.C k102 w0 A0 l0.length l0) (hb0 : Below w0.heap.size w0 w) (hc0 : l0.length ≤ c0) (hb : l0.length * 40 ≤ 140737488355328) :
    Calls Try.prog 84 #[.slice A0 l0.length c0] w fun e w' => ∃ v inner, e = .returned v ∧ w'.ownsRow w.heap.size 102 2 v l0.length inner ∧ Reps (Kd.K k102 w0) 2 l0 inner ∧ Below w.heap.size w w' := by
  have q : ∀ (w : World) (a : Option Addr) (n c n' c' : Nat), (binOp .eql 90 (.slice a n c) (.slice none n' c')).run Try.prog w = .ok (.bool a.isNone) w := fun w a n c n' c' => Lib.run_eql_slice_nil w _ _ a n c n' c' Try.underlying90
  cases A0 with
  | none =>
    have hl : l0 = [] := by
      cases l0 with
      | nil => rfl
      | cons x xs =>
        obtain ⟨ad, e, _⟩ := hr0.2.2 (by simp)
        cases e
    subst hl
    clear hr0 hc0
    go_enter Try.func84, Try.ntmps84
    go_wp2
    go_ret
    exact ⟨_, [], rfl, own_nil _ _ _ _, Reps.none _ _, Below.refl _ _⟩
  | some ad =>
    obtain ⟨i0, hi, hz0, hz1, hz2⟩ := info_parts info102g
    obtain ⟨news, h1, h2, h3⟩ := C_cells hr0
    have hmx := hr0.2.1
    have A := Aside0.mk h3
    have A1 := Aside0.mk h1
    clear h1 h3 hr0 hc0
    go_enter Try.func84, Try.ntmps84
    go_wp2_with (at_builtin; refine wpList_append_own _ rfl _ _ 90 rfl w.heap.size 102 i0 _ 2 40 Try.underlying90 hi hz0 hz1 hz2 rfl (by omega) _ _ _ rfl (World.ownsRow_made w #[] 0 (Nat.le_refl _) (Nat.zero_le _) (by simp)) ad l0.length c0 news rfl ?qc1 ?qc2 ?qc3 ?qc4 ?qc5 ?qc6 ?_)
    case qc1 => exact A1.out.1
    case qc2 =>
      intro j u hj
      exact Lib.cell?_alloc_some _ ((hb0.cell (World.block_lt_of_cell? _ _ (A.out j u hj))).trans (A.out j u hj))
    case qc3 => exact h2
    case qc4 => rw [Nat.zero_add]; unfold maxLen; omega
    case qc5 => rw [Nat.zero_add]; exact hb
    case qc6 => simp
    intro v' w1 hown hgrow hnil
    go_wp2
    go_ret
    exact ⟨v', news, rfl, by simpa using hown, A1.out, ((Below.refl _ w).alloc (Nat.le_refl _) _).grown hgrow (by simp) (by intro k hk; simp [Value.ownBlock] at hk; omega)⟩
theorem R_of_flat {α : Type} {d : Kd α} {e base : Nat} {w w' : World} {v : Value} {l : List α} {inner : List Value} (hM : ∀ x c, d.K w x c → d.M w' base (fun k => True ∧ some k ≠ v.ownBlock) x c) (ho : w'.ownsRow base e d.sz v l.length inner) (hr : Reps (d.K w) d.sz l inner) : d.R e w' base (fun _ => True) v l :=
  ⟨fun _ _ => trivial, inner, ho, hr.imp_ hM⟩
def slices_Clone_uint32_uint32.f (l0 : List Int) : Option (List Int) := if l0.length * 4 ≤ 140737488355328 then some l0 else none
theorem slices_Clone_uint32_uint32.calls (A0 : Option Addr) (c0 : Nat) (l0 : List Int) (r : List Int) (w : World) (hr0 : Kd.C (Kd.int .u32) w A0 l0.length l0) (hc0 : l0.length ≤ c0) (h : slices_Clone_uint32_uint32.f l0 = some r) :
    Calls Try.prog 48 #[.slice A0 l0.length c0] w fun e w' => ∃ v0_ : Value, e = .returned (v0_) ∧ Kd.R (Kd.int .u32) 31 w' w.heap.size (fun _ => True) v0_ r ∧ Below w.heap.size w w' := by
  unfold slices_Clone_uint32_uint32.f at h
  split at h
  · rename_i hb
    obtain rfl := Option.some.inj h
    refine (clone48 A0 c0 l0 w w hr0 (Below.refl _ _) hc0 hb).mono ?_
    rintro e w' ⟨v, inner, rfl, ho, hr, hbl⟩
    exact ⟨v, rfl, R_of_flat (fun x c hk => hk) ho hr, hbl⟩
  · cases h
def slices_Clone_byte_byte.f (l0 : List Int) : Option (List Int) := if l0.length * 1 ≤ 140737488355328 then some l0 else none
theorem slices_Clone_byte_byte.calls (A0 : Option Addr) (c0 : Nat) (l0 : List Int) (r : List Int) (w : World) (hr0 : Kd.C (Kd.int .u8) w A0 l0.length l0) (hc0 : l0.length ≤ c0) (h : slices_Clone_byte_byte.f l0 = some r) :
    Calls Try.prog 49 #[.slice A0 l0.length c0] w fun e w' => ∃ v0_ : Value, e = .returned (v0_) ∧ Kd.R (Kd.int .u8) 5 w' w.heap.size (fun _ => True) v0_ r ∧ Below w.heap.size w w' := by
  unfold slices_Clone_byte_byte.f at h
  split at h
  · rename_i hb
    obtain rfl := Option.some.inj h
    refine (clone49 A0 c0 l0 w w hr0 (Below.refl _ _) hc0 hb).mono ?_
    rintro e w' ⟨v, inner, rfl, ho, hr, hbl⟩
    exact ⟨v, rfl, R_of_flat (fun x c hk => hk) ho hr, hbl⟩
  · cases h
def slices_Clone_int_int.f (l0 : List Int) : Option (List Int) := if l0.length * 8 ≤ 140737488355328 then some l0 else none
theorem slices_Clone_int_int.calls (A0 : Option Addr) (c0 : Nat) (l0 : List Int) (r : List Int) (w : World) (hr0 : Kd.C (Kd.int .i64) w A0 l0.length l0) (hc0 : l0.length ≤ c0) (h : slices_Clone_int_int.f l0 = some r) :
    Calls Try.prog 50 #[.slice A0 l0.length c0] w fun e w' => ∃ v0_ : Value, e = .returned (v0_) ∧ Kd.R (Kd.int .i64) 3 w' w.heap.size (fun _ => True) v0_ r ∧ Below w.heap.size w w' := by
  unfold slices_Clone_int_int.f at h
  split at h
  · rename_i hb
    obtain rfl := Option.some.inj h
    refine (clone50 A0 c0 l0 w w hr0 (Below.refl _ _) hc0 hb).mono ?_
    rintro e w' ⟨v, inner, rfl, ho, hr, hbl⟩
    exact ⟨v, rfl, R_of_flat (fun x c hk => hk) ho hr, hbl⟩
  · cases h
def api_Op.f (l0 : List (S57)) : Option ((List (S57))) := if l0.length * 16 ≤ 140737488355328 then some l0 else none
theorem api_Op.calls (A0 : Option Addr) (c0 : Nat) (l0 : List (S57)) (r : List (S57)) (w : World) (hr0 : Kd.C k57 w A0 l0.length l0) (hc0 : l0.length ≤ c0) (h : api_Op.f l0 = some r) :
    Calls Try.prog 54 #[.slice A0 l0.length c0] w fun e w' => ∃ v0_ : Value, e = .returned (v0_) ∧ Kd.R k57 57 w' w.heap.size (fun _ => True) v0_ r ∧ Below w.heap.size w w' := by
  unfold api_Op.f at h
  split at h
  · rename_i hb
    obtain rfl := Option.some.inj h
    refine (clone54 A0 c0 l0 w w hr0 (Below.refl _ _) hc0 hb).mono ?_
    rintro e w' ⟨v, inner, rfl, ho, hr, hbl⟩
    exact ⟨v, rfl, R_of_flat (fun x c hk => by obtain rfl := k57_open hk; exact k57_mkM _ _ _ x) ho hr, hbl⟩
  · cases h
end Go.Proofs.Ytpalbpakeokimaa.PK
