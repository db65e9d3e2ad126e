/- tinder: a part of the proof, joined and pruned by wip/tools/prune.py out of: Gm -/
import Derived.Test.YtpalbpakeokimaaFGn
import Derived.Test.YtpalbpakeokimaaFK87
import Derived.Shelf.AbstractIn
namespace Go.Proofs.Ytpalbpakeokimaa.PK
set_option linter.unusedVariables false
set_option linter.unusedSimpArgs false
open Go.RowKit Go.Proofs.YtpalbpakeokimaaW.PrintWords Go.Proofs.YtpalbpakeokimaaW.PrintLast Go.Proofs.YtpalbpakeokimaaW.PrintMore
open Go.Shelf
noncomputable def anyK {α : Type} (f : Nat → Option α) : Option α := by
  classical
  exact if h : ∃ r k, f k = some r then some h.choose else none
theorem anyK_some {α : Type} {f : Nat → Option α} {r : α} (h : anyK f = some r) : ∃ k, f k = some r := by
  unfold anyK at h
  split at h
  · rename_i h1
    cases h
    exact h1.choose_spec
  · cases h
theorem anyK_of {α : Type} {f : Nat → Option α} {r : α} {k : Nat} (hm : ∀ j, LeO (f j) (f (j + 1))) (h : f k = some r) : anyK f = some r := by
  have up : ∀ (i j : Nat) (x : α), f i = some x → f (i + j) = some x := by
    intro i j x hx
    induction j with
    | zero => exact hx
    | succ j ih => exact hm _ _ ih
  have hu : ∀ x, (∃ k, f k = some x) → x = r := by
    rintro x ⟨j, hj⟩
    have h1 := up j k x hj
    have h2 := up k j r h
    rw [Nat.add_comm] at h2
    rw [h1] at h2
    exact Option.some.inj h2
  unfold anyK
  rw [dif_pos ⟨r, k, h⟩]
  rw [hu _ (Exists.choose_spec (⟨r, k, h⟩ : ∃ r k, f k = some r))]
def PredM (P : Program) {α : Type} (d : Kd α) (g : Nat) (lb : Array Value) (p : α → Bool) (l : List α) (w : World) : Prop :=
  ∀ (W : World) (x : α) (c : List Value), Below w.heap.size w W → x ∈ l → d.K W x c → Calls P g (#[.agg c.toArray] ++ lb) W fun e w' => e = .returned (.bool (p x)) ∧ Below W.heap.size W w'
set_option maxHeartbeats 2000000 in
set_option maxRecDepth 100000 in
theorem idxfm_T45 (p : S45 → Bool) (g : Nat) (lb : Array Value) (eg : ∀ args w, (callFunc g args).run Try.prog w = .ok (.enter g args) w) (A0 : Option Addr) (c0 : Nat) (l0 : List S45) (w : World) (hr0 : Kd.C k45 w A0 l0.length l0) (hc0 : l0.length ≤ c0) (hp : PredM Try.prog k45 g lb p l0 w) :
    Calls Try.prog 93 #[.slice A0 l0.length c0, .func (.func g) #[] lb] w fun e w' => e = .returned (.int .i64 (idxP p l0)) ∧ Below w.heap.size w w' := by
  have HR0 := Aside0.mk hr0
  have HC0 := Aside0.mk hc0
  have hmx := hr0.2.1
  clear hr0 hc0
  go_enter Try.func93, Try.ntmps93
  go_wp2
  go_loopg [5, 8] l0.length (fun gg _ s8 wr => ∃ kk : Nat, kk ≤ l0.length ∧ l0.length - kk ≤ gg ∧ s8 = .int .i64 kk ∧ Aside0 (Below w.heap.size w wr) ∧ Aside0 (∀ j (hj : j < l0.length), j < kk → p l0[j] = false))
  case atStart => exact ⟨0, Nat.zero_le _, by omega, rfl, ⟨Below.refl _ w⟩, ⟨fun j _ hj => absurd hj (Nat.not_lt_zero _)⟩⟩
  case round =>
    obtain ⟨kk, hkk, hg, rfl, BW, A⟩ := hrel
    by_cases hlt : kk < l0.length
    · have hltz : (kk : Int) < (l0.length : Int) := by omega
      obtain ⟨ad, A4_, c4_, e1, h0, h1, h2, h3, h4, hl4, hi4⟩ := at_T45 (Kd.C_below HR0.out BW.out) (kk : Int) (by omega) hltz
      simp only [Int.toNat_natCast] at h0 h1 h2 h3 h4
      have hx : rd_T45 l0 kk = l0[kk] := by simp [rd_T45, hlt]
      cases e1
      have hK := k45_mk wr (rd_T45 l0 kk) hl4 hi4
      have hcall := hp wr _ _ BW.out (by rw [hx]; exact List.getElem_mem hlt) hK
      have B := Aside0.mk hx
      clear hx hl4 hi4 hK hp
      generalize hy : rd_T45 l0 kk = y at *
      clear hy
      cases hq : p y with
      | true =>
        rw [hq] at hcall
        go_wp2_with (go_at_fn g; refine hcall.mono ?_; rintro e w' ⟨rfl, hb'⟩)
        go_ret
        refine ⟨?_, below_then BW.out BW.out.size hb'⟩
        rw [idxP_hit hlt (by rw [← B.out]; exact hq) A.out]
        rfl
      | false =>
        rw [hq] at hcall
        go_wp2_with (go_at_fn g; refine hcall.mono ?_; rintro e w' ⟨rfl, hb'⟩)
        go_roundg (l0.length - (kk + 1))
        case measure => omega
        case rel =>
          refine ⟨kk + 1, by omega, by omega, by go_num, ⟨below_then BW.out BW.out.size hb'⟩, ⟨fun j hj1 hj => ?_⟩⟩
          by_cases e : j = kk
          · subst e
            rw [← B.out]; exact hq
          · exact A.out j hj1 (by omega)
    · have hltz : ¬ (kk : Int) < (l0.length : Int) := by omega
      have : kk = l0.length := by omega
      subst this
      go_wp2
      go_ret
      refine ⟨?_, BW.out⟩
      rw [idxP_miss (fun j hj => A.out j hj hj)]
      rfl
set_option maxHeartbeats 2000000 in
theorem hasfm_T45 (p : S45 → Bool) (g : Nat) (lb : Array Value) (eg : ∀ args w, (callFunc g args).run Try.prog w = .ok (.enter g args) w) (A0 : Option Addr) (c0 : Nat) (l0 : List S45) (w : World) (hr0 : Kd.C k45 w A0 l0.length l0) (hc0 : l0.length ≤ c0) (hp : PredM Try.prog k45 g lb p l0 w) :
    Calls Try.prog 72 #[.slice A0 l0.length c0, .func (.func g) #[] lb] w fun e w' => e = .returned (.bool (l0.any p)) ∧ Below w.heap.size w w' := by
  rw [← idxP_any]
  have hc := idxfm_T45 p g lb eg A0 c0 l0 w hr0 hc0 hp
  clear hr0 hc0 hp
  obtain ⟨I, hI⟩ : ∃ I, idxP p l0 = I := ⟨_, rfl⟩
  rw [hI] at hc ⊢
  clear hI
  go_enter Try.func72, Try.ntmps72
  go_wp2_with (go_at_call 93; refine hc.mono ?_; rintro e w' ⟨rfl, hb⟩)
  go_ret
  exact ⟨rfl, hb⟩
set_option maxHeartbeats 2000000 in
set_option maxRecDepth 100000 in
theorem right_not (B : Nat) (M : Array Value) (A2 A5 : Option Addr) (c2 c5 : Nat) (n : Nat) (t : List S92) (x : S45) (r : Bool) (w : World) (A4 : Option Addr) (c4 : Nat)
    (h2 : w.cell? ⟨B, 2, none⟩ = some (.slice A2 n c2)) (h5 : w.cell? ⟨B, 5, none⟩ = some (.slice A5 t.length c5))
    (hr4 : Kd.C k57 w A4 x.f4.length x.f4) (hc4 : x.f4.length ≤ c4) (hr2 : Kd.C k92 w A5 t.length t) (hc2 : t.length ≤ c5) (k : Nat) (h : dict_right.f k x.f0 x.f1 x.f2 x.f3 x.f4 (n : Int) t = some r) :
    Calls Try.prog 73 #[.agg #[.string x.f0, .int .i64 x.f1, .int .i64 x.f2, .int .u32 x.f3, .slice A4 x.f4.length c4], .pointer (some ⟨B, 0, none⟩)] w fun e w' => e = .returned (.bool (!r)) ∧ Below w.heap.size w w' := by
  have HR4 := Aside0.mk hr4
  have HC4 := Aside0.mk hc4
  have HR2 := Aside0.mk hr2
  have HC2 := Aside0.mk hc2
  have H := Aside0.mk h
  clear hr4 hc4 hr2 hc2 h
  have hb0 := World.block_lt_of_cell? w _ h2
  go_enter Try.func73, Try.ntmps73
  go_wp2_with (go_at_call 59; refine (dict_right.calls k _ _ _ _ _ _ _ _ _ _ _ _ _ (Kd.C_alloc HR4.out _) HC4.out (Kd.C_alloc HR2.out _) HC2.out H.out).mono ?_; rintro e w' ⟨rfl, hb⟩)
  go_ret
  exact ⟨rfl, (below_alloc (Below.refl _ _) _).trans (hb.mono (by simp))⟩
set_option maxHeartbeats 2000000 in
set_option maxRecDepth 100000 in
theorem wild_calls (B : Nat) (A2 : Option Addr) (c2 : Nat) (n : Nat) (x : Int) (w : World)
    (h2 : w.cell? ⟨B, 2, none⟩ = some (.slice A2 n c2)) :
    Calls Try.prog 38 #[.int .i64 x, .pointer (some ⟨B, 0, none⟩)] w fun e w' => e = .returned (.bool (decide (x < -1) || decide (x ≥ (n : Int)))) ∧ Below w.heap.size w w' := by
  by_cases h : x < -1
  · have d1 : decide (x < -1) = true := decide_eq_true h
    rw [d1, Bool.true_or]
    clear h
    go_enter Try.func38, Try.ntmps38
    go_wp2
    go_ret
    exact ⟨rfl, Below.refl _ _⟩
  · have d1 : decide (x < -1) = false := decide_eq_false h
    rw [d1, Bool.false_or]
    clear h
    cases d2 : decide (x ≥ (n : Int)) with
    | true =>
      go_enter Try.func38, Try.ntmps38
      go_wp2
      go_ret
      exact ⟨rfl, Below.refl _ _⟩
    | false =>
      go_enter Try.func38, Try.ntmps38
      go_wp2
      go_ret
      exact ⟨rfl, Below.refl _ _⟩
end Go.Proofs.Ytpalbpakeokimaa.PK
