/- tinder: a part of the proof, joined and pruned by wip/tools/prune.py out of: Gt -/
import Derived.Test.YtpalbpakeokimaaFK0
import Derived.Shelf.Abstract
namespace Go.Proofs.Ytpalbpakeokimaa.PK
set_option linter.unusedVariables false
set_option linter.unusedSimpArgs false
open Go.RowKit Go.Proofs.YtpalbpakeokimaaW.PrintWords Go.Proofs.YtpalbpakeokimaaW.PrintLast Go.Proofs.YtpalbpakeokimaaW.PrintMore
open Go.Shelf
def idxP {α : Type} (p : α → Bool) (l : List α) : Int := match l.findIdx? p with | some i => (i : Int) | none => -1
theorem idxP_hit {α : Type} {p : α → Bool} {l : List α} {i : Nat} (hi : i < l.length) (h : p l[i] = true) (hn : ∀ j (hj : j < l.length), j < i → p l[j] = false) : idxP p l = i := by
  unfold idxP
  have : l.findIdx? p = some i := by
    rw [List.findIdx?_eq_some_iff_getElem]
    exact ⟨hi, h, fun j hj => by simp [hn j (by omega) hj]⟩
  rw [this]
theorem idxP_miss {α : Type} {p : α → Bool} {l : List α} (hn : ∀ j (hj : j < l.length), p l[j] = false) : idxP p l = -1 := by
  unfold idxP
  have : l.findIdx? p = none := by
    rw [List.findIdx?_eq_none_iff]
    intro x hx
    obtain ⟨j, hj, rfl⟩ := List.getElem_of_mem hx
    exact hn j hj
  rw [this]
theorem idxP_any {α : Type} (p : α → Bool) (l : List α) : decide (0 ≤ idxP p l) = l.any p := by
  unfold idxP
  cases h : l.findIdx? p with
  | some i =>
    obtain ⟨hi, hp, _⟩ := List.findIdx?_eq_some_iff_getElem.1 h
    simp
    exact ⟨_, List.getElem_mem hi, hp⟩
  | none =>
    rw [List.findIdx?_eq_none_iff] at h
    simp
    exact fun x hx => h x hx
def PredK (P : Program) {α : Type} (d : Kd α) (g : Nat) (lb : Array Value) (p : α → Bool) (w : World) : Prop :=
  ∀ (W : World) (x : α) (c : List Value), Below w.heap.size w W → d.K W x c → Calls P g (#[.agg c.toArray] ++ lb) W fun e w' => e = .returned (.bool (p x)) ∧ Below W.heap.size W w'
def PredI (P : Program) (k : IntKind) (g : Nat) (lb : Array Value) (p : Int → Bool) (w : World) : Prop :=
  ∀ (W : World) (x : Int), Below w.heap.size w W → Calls P g (#[.int k x] ++ lb) W fun e w' => e = .returned (.bool (p x)) ∧ Below W.heap.size W w'
theorem at_int {k : IntKind} {w : World} {A : Option Addr} {n : Nat} {xs : List Int} (h : Kd.C (Kd.int k) w A n xs) (i : Int) (h0 : 0 ≤ i) (h1 : i < n) : ∃ ad, A = some ad ∧ w.cell? (ad.add i.toNat) = some (.int k (rd xs i)) := by
  obtain ⟨ad, c, e, _, hK, hc0⟩ := Kd.C_get h 0 i h0 h1
  have hc : ∀ j u, c[j]? = some u → w.cell? (ad.add (i.toNat * 1 + j)) = some u := hc0
  obtain rfl : c = [.int k (xs.getD i.toNat 0)] := hK
  refine ⟨ad, e, ?_⟩
  have := hc 0 _ rfl
  rwa [Nat.mul_one, Nat.add_zero] at this
set_option maxHeartbeats 2000000 in
set_option maxRecDepth 100000 in
theorem idxf_T102 (p : S102 → Bool) (g : Nat) (lb : Array Value) (eg : ∀ args w, (callFunc g args).run Try.prog w = .ok (.enter g args) w) (A0 : Option Addr) (c0 : Nat) (l0 : List S102) (w : World) (hr0 : Kd.C k102 w A0 l0.length l0) (hc0 : l0.length ≤ c0) (hp : PredK Try.prog k102 g lb p w) :
    Calls Try.prog 95 #[.slice A0 l0.length c0, .func (.func g) #[] lb] w fun e w' => e = .returned (.int .i64 (idxP p l0)) ∧ Below w.heap.size w w' := by
  have HR0 := Aside0.mk hr0
  have HC0 := Aside0.mk hc0
  have hmx := hr0.2.1
  clear hr0 hc0
  go_enter Try.func95, Try.ntmps95
  go_wp2
  go_loopg [5, 8] l0.length (fun gg _ s8 wr => ∃ kk : Nat, kk ≤ l0.length ∧ l0.length - kk ≤ gg ∧ s8 = .int .i64 kk ∧ Aside0 (Below w.heap.size w wr) ∧ Aside0 (∀ j (hj : j < l0.length), j < kk → p l0[j] = false))
  case atStart => exact ⟨0, Nat.zero_le _, by omega, rfl, ⟨Below.refl _ w⟩, ⟨fun j _ hj => absurd hj (Nat.not_lt_zero _)⟩⟩
  case round =>
    obtain ⟨kk, hkk, hg, rfl, BW, A⟩ := hrel
    by_cases hlt : kk < l0.length
    · have hltz : (kk : Int) < (l0.length : Int) := by omega
      obtain ⟨ad, A1_, c1_, e1, h0, h1, hl1, hi1⟩ := at_T102 (Kd.C_below HR0.out BW.out) (kk : Int) (by omega) hltz
      simp only [Int.toNat_natCast] at h0 h1
      have hx : rd_T102 l0 kk = l0[kk] := by simp [rd_T102, hlt]
      cases e1
      have hK := k102_mk wr (rd_T102 l0 kk) hl1 hi1
      have hcall := hp wr _ _ BW.out hK
      have B := Aside0.mk hx
      clear hx hl1 hi1 hK hp
      generalize hy : rd_T102 l0 kk = y at *
      clear hy
      cases hq : p y with
      | true =>
        rw [hq] at hcall
        go_wp2_with (go_at_fn g; refine hcall.mono ?_; rintro e w' ⟨rfl, hb'⟩)
        go_ret
        refine ⟨?_, below_then BW.out BW.out.size hb'⟩
        rw [idxP_hit hlt (by rw [← B.out]; exact hq) A.out]
        rfl
      | false =>
        rw [hq] at hcall
        go_wp2_with (go_at_fn g; refine hcall.mono ?_; rintro e w' ⟨rfl, hb'⟩)
        go_roundg (l0.length - (kk + 1))
        case measure => omega
        case rel =>
          refine ⟨kk + 1, by omega, by omega, by go_num, ⟨below_then BW.out BW.out.size hb'⟩, ⟨fun j hj1 hj => ?_⟩⟩
          by_cases e : j = kk
          · subst e
            rw [← B.out]; exact hq
          · exact A.out j hj1 (by omega)
    · have hltz : ¬ (kk : Int) < (l0.length : Int) := by omega
      have : kk = l0.length := by omega
      subst this
      go_wp2
      go_ret
      refine ⟨?_, BW.out⟩
      rw [idxP_miss (fun j hj => A.out j hj hj)]
      rfl
set_option maxHeartbeats 2000000 in
theorem hasf_T102 (p : S102 → Bool) (g : Nat) (lb : Array Value) (eg : ∀ args w, (callFunc g args).run Try.prog w = .ok (.enter g args) w) (A0 : Option Addr) (c0 : Nat) (l0 : List S102) (w : World) (hr0 : Kd.C k102 w A0 l0.length l0) (hc0 : l0.length ≤ c0) (hp : PredK Try.prog k102 g lb p w) :
    Calls Try.prog 86 #[.slice A0 l0.length c0, .func (.func g) #[] lb] w fun e w' => e = .returned (.bool (l0.any p)) ∧ Below w.heap.size w w' := by
  rw [← idxP_any]
  have hc := idxf_T102 p g lb eg A0 c0 l0 w hr0 hc0 hp
  clear hr0 hc0 hp
  obtain ⟨I, hI⟩ : ∃ I, idxP p l0 = I := ⟨_, rfl⟩
  rw [hI] at hc ⊢
  clear hI
  go_enter Try.func86, Try.ntmps86
  go_wp2_with (go_at_call 95; refine hc.mono ?_; rintro e w' ⟨rfl, hb⟩)
  go_ret
  exact ⟨rfl, hb⟩
set_option maxHeartbeats 2000000 in
set_option maxRecDepth 100000 in
theorem idxf_T92 (p : S92 → Bool) (g : Nat) (lb : Array Value) (eg : ∀ args w, (callFunc g args).run Try.prog w = .ok (.enter g args) w) (A0 : Option Addr) (c0 : Nat) (l0 : List S92) (w : World) (hr0 : Kd.C k92 w A0 l0.length l0) (hc0 : l0.length ≤ c0) (hp : PredK Try.prog k92 g lb p w) :
    Calls Try.prog 89 #[.slice A0 l0.length c0, .func (.func g) #[] lb] w fun e w' => e = .returned (.int .i64 (idxP p l0)) ∧ Below w.heap.size w w' := by
  have HR0 := Aside0.mk hr0
  have HC0 := Aside0.mk hc0
  have hmx := hr0.2.1
  clear hr0 hc0
  go_enter Try.func89, Try.ntmps89
  go_wp2
  go_loopg [5, 8] l0.length (fun gg _ s8 wr => ∃ kk : Nat, kk ≤ l0.length ∧ l0.length - kk ≤ gg ∧ s8 = .int .i64 kk ∧ Aside0 (Below w.heap.size w wr) ∧ Aside0 (∀ j (hj : j < l0.length), j < kk → p l0[j] = false))
  case atStart => exact ⟨0, Nat.zero_le _, by omega, rfl, ⟨Below.refl _ w⟩, ⟨fun j _ hj => absurd hj (Nat.not_lt_zero _)⟩⟩
  case round =>
    obtain ⟨kk, hkk, hg, rfl, BW, A⟩ := hrel
    by_cases hlt : kk < l0.length
    · have hltz : (kk : Int) < (l0.length : Int) := by omega
      obtain ⟨ad, A1_, c1_, A3_, c3_, A4_, c4_, e1, h0, h1, h2, h3, h4, hl1, hi1, hl3, hi3, hl4, hi4⟩ := at_T92 (Kd.C_below HR0.out BW.out) (kk : Int) (by omega) hltz
      simp only [Int.toNat_natCast] at h0 h1 h2 h3 h4
      have hx : rd_T92 l0 kk = l0[kk] := by simp [rd_T92, hlt]
      cases e1
      have hK := k92_mk wr (rd_T92 l0 kk) hl1 hi1 hl3 hi3 hl4 hi4
      have hcall := hp wr _ _ BW.out hK
      have B := Aside0.mk hx
      clear hx hl1 hi1 hl3 hi3 hl4 hi4 hK hp
      generalize hy : rd_T92 l0 kk = y at *
      clear hy
      cases hq : p y with
      | true =>
        rw [hq] at hcall
        go_wp2_with (go_at_fn g; refine hcall.mono ?_; rintro e w' ⟨rfl, hb'⟩)
        go_ret
        refine ⟨?_, below_then BW.out BW.out.size hb'⟩
        rw [idxP_hit hlt (by rw [← B.out]; exact hq) A.out]
        rfl
      | false =>
        rw [hq] at hcall
        go_wp2_with (go_at_fn g; refine hcall.mono ?_; rintro e w' ⟨rfl, hb'⟩)
        go_roundg (l0.length - (kk + 1))
        case measure => omega
        case rel =>
          refine ⟨kk + 1, by omega, by omega, by go_num, ⟨below_then BW.out BW.out.size hb'⟩, ⟨fun j hj1 hj => ?_⟩⟩
          by_cases e : j = kk
          · subst e
            rw [← B.out]; exact hq
          · exact A.out j hj1 (by omega)
    · have hltz : ¬ (kk : Int) < (l0.length : Int) := by omega
      have : kk = l0.length := by omega
      subst this
      go_wp2
      go_ret
      refine ⟨?_, BW.out⟩
      rw [idxP_miss (fun j hj => A.out j hj hj)]
      rfl
set_option maxHeartbeats 2000000 in
theorem hasf_T92 (p : S92 → Bool) (g : Nat) (lb : Array Value) (eg : ∀ args w, (callFunc g args).run Try.prog w = .ok (.enter g args) w) (A0 : Option Addr) (c0 : Nat) (l0 : List S92) (w : World) (hr0 : Kd.C k92 w A0 l0.length l0) (hc0 : l0.length ≤ c0) (hp : PredK Try.prog k92 g lb p w) :
    Calls Try.prog 67 #[.slice A0 l0.length c0, .func (.func g) #[] lb] w fun e w' => e = .returned (.bool (l0.any p)) ∧ Below w.heap.size w w' := by
  rw [← idxP_any]
  have hc := idxf_T92 p g lb eg A0 c0 l0 w hr0 hc0 hp
  clear hr0 hc0 hp
  obtain ⟨I, hI⟩ : ∃ I, idxP p l0 = I := ⟨_, rfl⟩
  rw [hI] at hc ⊢
  clear hI
  go_enter Try.func67, Try.ntmps67
  go_wp2_with (go_at_call 89; refine hc.mono ?_; rintro e w' ⟨rfl, hb⟩)
  go_ret
  exact ⟨rfl, hb⟩
set_option maxHeartbeats 2000000 in
set_option maxRecDepth 100000 in
theorem idxf_int (p : Int → Bool) (g : Nat) (lb : Array Value) (eg : ∀ args w, (callFunc g args).run Try.prog w = .ok (.enter g args) w) (A0 : Option Addr) (c0 : Nat) (l0 : List Int) (w : World) (hr0 : Kd.C (Kd.int .i64) w A0 l0.length l0) (hc0 : l0.length ≤ c0) (hp : PredI Try.prog .i64 g lb p w) :
    Calls Try.prog 74 #[.slice A0 l0.length c0, .func (.func g) #[] lb] w fun e w' => e = .returned (.int .i64 (idxP p l0)) ∧ Below w.heap.size w w' := by
  have HR0 := Aside0.mk hr0
  have HC0 := Aside0.mk hc0
  have hmx := hr0.2.1
  clear hr0 hc0
  go_enter Try.func74, Try.ntmps74
  go_wp2
  go_loopg [5, 8] l0.length (fun gg _ s8 wr => ∃ kk : Nat, kk ≤ l0.length ∧ l0.length - kk ≤ gg ∧ s8 = .int .i64 kk ∧ Aside0 (Below w.heap.size w wr) ∧ Aside0 (∀ j (hj : j < l0.length), j < kk → p l0[j] = false))
  case atStart => exact ⟨0, Nat.zero_le _, by omega, rfl, ⟨Below.refl _ w⟩, ⟨fun j _ hj => absurd hj (Nat.not_lt_zero _)⟩⟩
  case round =>
    obtain ⟨kk, hkk, hg, rfl, BW, A⟩ := hrel
    by_cases hlt : kk < l0.length
    · have hltz : (kk : Int) < (l0.length : Int) := by omega
      obtain ⟨ad, e1, h0⟩ := at_int (Kd.C_below HR0.out BW.out) (kk : Int) (by omega) hltz
      simp only [Int.toNat_natCast] at h0
      have hx : rd l0 kk = l0[kk] := by simp [rd, hlt]
      cases e1
      have hcall := hp wr (rd l0 kk) BW.out
      have B := Aside0.mk hx
      clear hx hp
      generalize hy : rd l0 kk = y at *
      clear hy
      cases hq : p y with
      | true =>
        rw [hq] at hcall
        go_wp2_with (go_at_fn g; refine hcall.mono ?_; rintro e w' ⟨rfl, hb'⟩)
        go_ret
        refine ⟨?_, below_then BW.out BW.out.size hb'⟩
        rw [idxP_hit hlt (by rw [← B.out]; exact hq) A.out]
        rfl
      | false =>
        rw [hq] at hcall
        go_wp2_with (go_at_fn g; refine hcall.mono ?_; rintro e w' ⟨rfl, hb'⟩)
        go_roundg (l0.length - (kk + 1))
        case measure => omega
        case rel =>
          refine ⟨kk + 1, by omega, by omega, by go_num, ⟨below_then BW.out BW.out.size hb'⟩, ⟨fun j hj1 hj => ?_⟩⟩
          by_cases e : j = kk
          · subst e
            rw [← B.out]; exact hq
          · exact A.out j hj1 (by omega)
    · have hltz : ¬ (kk : Int) < (l0.length : Int) := by omega
      have : kk = l0.length := by omega
      subst this
      go_wp2
      go_ret
      refine ⟨?_, BW.out⟩
      rw [idxP_miss (fun j hj => A.out j hj hj)]
      rfl
set_option maxHeartbeats 2000000 in
theorem hasf_int (p : Int → Bool) (g : Nat) (lb : Array Value) (eg : ∀ args w, (callFunc g args).run Try.prog w = .ok (.enter g args) w) (A0 : Option Addr) (c0 : Nat) (l0 : List Int) (w : World) (hr0 : Kd.C (Kd.int .i64) w A0 l0.length l0) (hc0 : l0.length ≤ c0) (hp : PredI Try.prog .i64 g lb p w) :
    Calls Try.prog 41 #[.slice A0 l0.length c0, .func (.func g) #[] lb] w fun e w' => e = .returned (.bool (l0.any p)) ∧ Below w.heap.size w w' := by
  rw [← idxP_any]
  have hc := idxf_int p g lb eg A0 c0 l0 w hr0 hc0 hp
  clear hr0 hc0 hp
  obtain ⟨I, hI⟩ : ∃ I, idxP p l0 = I := ⟨_, rfl⟩
  rw [hI] at hc ⊢
  clear hI
  go_enter Try.func41, Try.ntmps41
  go_wp2_with (go_at_call 74; refine hc.mono ?_; rintro e w' ⟨rfl, hb⟩)
  go_ret
  exact ⟨rfl, hb⟩
end Go.Proofs.Ytpalbpakeokimaa.PK
