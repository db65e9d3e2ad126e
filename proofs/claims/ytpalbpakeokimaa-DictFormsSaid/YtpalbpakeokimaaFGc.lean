/- tinder: a part of the proof, joined and pruned by wip/tools/prune.py out of: Gc -/
import Derived.Test.YtpalbpakeokimaaFK11
import Derived.Test.YtpalbpakeokimaaFGt
import Derived.Outline
import Derived.RangeFuncLeaves
import Derived.RangeFuncBox
import Derived.Deep.RegionWith
import Derived.Deep.QuietTactic
import Derived.BigQuiet
namespace Go.Proofs.Ytpalbpakeokimaa.PK
set_option linter.unusedVariables false
set_option linter.unusedSimpArgs false
open Go.RowKit Go.Proofs.YtpalbpakeokimaaW.PrintWords Go.Proofs.YtpalbpakeokimaaW.PrintLast Go.Proofs.YtpalbpakeokimaaW.PrintMore
open Go.Shelf
set_option maxHeartbeats 1000000 in
theorem named87 (s : ByteArray) (w : World) : Calls Try.prog 87 #[.string s] w fun e w' => e = .returned (.func (.func 96) #[] #[.pointer (some ⟨w.heap.size, 0, none⟩)]) ∧ w' = w.alloc (.cells #[.string s] 9) := by
  go_enter Try.func87, Try.ntmps87
  go_wp2
  go_ret
  exact ⟨rfl, rfl⟩
set_option maxHeartbeats 1000000 in
theorem named96 (s : ByteArray) (B : Nat) (x : S102) (c : List Value) (W : World) (hB : W.cell? ⟨B, 0, none⟩ = some (.string s)) (hK : k102.K W x c) :
    Calls Try.prog 96 (#[.agg c.toArray] ++ #[.pointer (some ⟨B, 0, none⟩)]) W fun e w' => e = .returned (.bool (x.f0.toList == s.toList)) ∧ Below W.heap.size W w' := by
  obtain ⟨A1, c1, rfl, h1, h2⟩ := k102_open hK
  have hlt := World.block_lt_of_cell? W _ hB
  clear hK h2
  go_enter Try.func96, Try.ntmps96
  go_wp2
  go_ret
  exact ⟨rfl, below_alloc (Below.refl _ _) _⟩
theorem named_pred (s : ByteArray) (B : Nat) (w : World) (hB : w.cell? ⟨B, 0, none⟩ = some (.string s)) : PredK Try.prog k102 96 #[.pointer (some ⟨B, 0, none⟩)] (fun x => x.f0.toList == s.toList) w := by
  intro W x c hb hK
  have hlt := World.block_lt_of_cell? w _ hB
  exact named96 s B x c W ((hb.cell (p := ⟨B, 0, none⟩) hlt).trans hB) hK
theorem new_cell {W : World} {v : Value} {t B : Nat} (hB : B = W.heap.size) : (W.alloc (.cells #[v] t)).cell? ⟨B, 0, none⟩ = some v := by
  subst hB
  simp
theorem below_go {w W W' : World} (h : Below w.heap.size w W) (k : Below W.heap.size W W') : Below w.heap.size w W' := below_then h h.size k
theorem all_stop {n : Nat} {f : Nat → Bool} {k : Nat} (hk : k < n) (h : f k = false) : (List.range n).all f = false := by
  rw [List.all_eq_false]
  exact ⟨k, List.mem_range.2 hk, by simp [h]⟩
theorem all_true {n : Nat} {f : Nat → Bool} (h : ∀ j, j < n → f j = true) : (List.range n).all f = true := by
  rw [List.all_eq_true]
  exact fun j hj => h j (List.mem_range.1 hj)
def propOK (l : List S102) (i : Nat) : Bool := propNamedB (l.getD i z102).f0 && decide ((l.getD i z102).f1.length ≤ 256) && !((l.take i).any fun q => q.f0.toList == (l.getD i z102).f0.toList)
def propsB (l : List S102) : Bool := decide (l.length ≤ 16) && (List.range l.length).all (propOK l)
def tree_propsFormed.f (l0 : List (S102)) : Option (Bool) := some (propsB l0)
set_option maxHeartbeats 4000000 in
set_option maxRecDepth 100000 in
theorem tree_propsFormed.calls (A0 : Option Addr) (c0 : Nat) (l0 : List (S102)) (r : Bool) (w : World) (hr0 : Kd.C k102 w A0 l0.length l0) (hc0 : l0.length ≤ c0) (h : tree_propsFormed.f l0 = some r) :
    Calls Try.prog 65 #[.slice A0 l0.length c0] w fun e w' => e = .returned (.bool r) ∧ Below w.heap.size w w' := by
  obtain rfl := Option.some.inj h
  have HR0 := Aside0.mk hr0
  have HC0 := Aside0.mk hc0
  clear hr0 hc0 h
  by_cases h16 : l0.length ≤ 16
  · have d16 : decide (16 < (l0.length : Int)) = false := decide_eq_false (by omega)
    have E1 := Aside0.mk (show propsB l0 = (List.range l0.length).all (propOK l0) by unfold propsB; rw [decide_eq_true h16]; rfl)
    have hu102 := Try.underlying102
    go_enter Try.func65, Try.ntmps65
    go_wp2
    go_loopg [10] l0.length (fun gg s10 wr => ∃ kk : Nat, kk ≤ l0.length ∧ l0.length - kk ≤ gg ∧ s10 = .int .i64 kk ∧ Aside0 (Below w.heap.size w wr) ∧ Aside0 (∀ j, j < kk → propOK l0 j = true))
    case atStart => exact ⟨0, Nat.zero_le _, by omega, rfl, ⟨Below.refl _ w⟩, ⟨fun j hj => absurd hj (Nat.not_lt_zero _)⟩⟩
    case round =>
      obtain ⟨kk, hkk, hg, rfl, BW, A⟩ := hrel
      by_cases hlt : kk < l0.length
      · have hltz : (kk : Int) < (l0.length : Int) := by omega
        obtain ⟨ad, A1, c1, e1, h0, h1, hl1, hi1⟩ := at_T102 (Kd.C_below HR0.out BW.out) (kk : Int) (by omega) hltz
        simp only [Int.toNat_natCast] at h0 h1
        have HX := Aside0.mk (show propOK l0 kk = (propNamedB (rd_T102 l0 kk).f0 && decide ((rd_T102 l0 kk).f1.length ≤ 256) && !((l0.take kk).any fun q => q.f0.toList == (rd_T102 l0 kk).f0.toList)) by simp [propOK, rd_T102])
        have HK := Aside0.mk (k102_mk wr (rd_T102 l0 kk) hl1 hi1)
        cases e1
        clear hl1 hi1
        generalize rd_T102 l0 kk = y at *
        have hnm : ∀ (b : Bool) (hb : propNamedB y.f0 = b) (W : World), Calls Try.prog 66 #[.string y.f0] W fun e w' => e = .returned (.bool b) ∧ ∃ m, w' = W.drewN m := fun b hb W => (prop_Named_any y.f0 W).mono fun e w' ⟨he, hw⟩ => ⟨hb ▸ he, hw.out⟩
        cases hn : propNamedB y.f0 with
        | false =>
          replace hnm := hnm false hn
          rw [hn] at HX
          clear hn
          go_wp2
          go_quiet ((go_at_call 66; exact Calls.quiet_of (hnm _)))
          go_wp2
          go_ret
          refine ⟨?_, ?_⟩
          · rw [E1.out, all_stop hlt (by rw [HX.out]; rfl)]
            rfl
          · exact pw_below_drewN (below_alloc BW.out _) _
        | true =>
          replace hnm := hnm true hn
          rw [hn] at HX
          clear hn
          by_cases h256 : y.f1.length ≤ 256
          · have d256 : decide (256 < (y.f1.length : Int)) = false := decide_eq_false (by omega)
            rw [decide_eq_true h256] at HX
            have hfun : ∀ (W : World) (B : Nat), Below wr.heap.size wr W → W.cell? ⟨B, 0, none⟩ = some (.string y.f0) → Calls Try.prog 86 #[.slice (some ad) kk c0, .func (.func 96) #[] #[.pointer (some ⟨B, 0, none⟩)]] W fun e w' => e = .returned (.bool ((l0.take kk).any fun q => q.f0.toList == y.f0.toList)) ∧ Below W.heap.size W w' := fun W B hb hc => by
              have hl : (l0.take kk).length = kk := by simp; omega
              have h1 := hasf_T102 (fun q => q.f0.toList == y.f0.toList) 96 #[.pointer (some ⟨B, 0, none⟩)] (enters_of Try.func96 (by kernel_rfl) rfl) (some ad) c0 (l0.take kk) W (Kd.C_take (Kd.C_below (Kd.C_below HR0.out BW.out) hb) (by omega)) (by have := HC0.out; omega) (named_pred _ _ _ hc)
              rw [hl] at h1
              exact h1
            have HF := Aside0.mk hfun
            clear hfun
            generalize hX : ((l0.take kk).any fun q => q.f0.toList == y.f0.toList) = X at *
            clear hX
            have hk1 : kk ≤ c0 := by have := HC0.out; omega
            have hk2 : (kk : Int) ≤ (c0 : Int) := by omega
            go_wp2
            go_region_with (first
              | (go_at_call 66; refine (hnm _).mono ?_; rintro e w' ⟨rfl, m, rfl⟩)
              | (go_at_call 87; refine (named87 _ _).mono ?_; rintro e w' ⟨rfl, rfl⟩)
              | (go_at_call 86; refine (HF.out _ _ (by repeat (first | exact Below.refl _ _ | apply below_alloc | apply below_drew1 | apply pw_below_drewN | apply below_drew)) (by apply new_cell; simp)).mono ?_; rintro e w' ⟨rfl, hb'⟩))
            cases X with
            | true =>
              go_wp2
              go_ret
              refine ⟨?_, ?_⟩
              · rw [E1.out, all_stop (show kk < l0.length from hlt) (by rw [HX.out]; rfl)]
                rfl
              · exact below_go (by repeat (first | exact BW.out | apply below_alloc | apply pw_below_drewN | apply below_drew)) hb'
            | false =>
              go_wp2
              go_roundg (l0.length - (kk + 1))
              case measure => omega
              case rel =>
                refine ⟨kk + 1, by omega, by omega, by go_num, ⟨?_⟩, ⟨fun j hj => ?_⟩⟩
                · exact below_go (by repeat (first | exact BW.out | apply below_alloc | apply pw_below_drewN | apply below_drew)) hb'
                · by_cases e : j = kk
                  · subst e
                    rw [HX.out]; rfl
                  · exact A.out j (by omega)
          · have d256 : decide (256 < (y.f1.length : Int)) = true := decide_eq_true (by omega)
            rw [decide_eq_false h256] at HX
            go_wp2
            go_quiet ((go_at_call 66; exact Calls.quiet_of (hnm _)))
            go_wp2
            go_ret
            refine ⟨?_, ?_⟩
            · rw [E1.out, all_stop hlt (by rw [HX.out]; rfl)]
              rfl
            · exact pw_below_drewN (below_alloc BW.out _) _
      · have hltz : ¬ (kk : Int) < (l0.length : Int) := by omega
        go_wp2
        go_ret
        refine ⟨?_, BW.out⟩
        rw [E1.out, all_true (fun j hj => A.out j (by omega))]
        rfl
  · have d16 : decide (16 < (l0.length : Int)) = true := decide_eq_true (by omega)
    have E1 : propsB l0 = false := by unfold propsB; rw [decide_eq_false h16]; rfl
    rw [E1]
    go_enter Try.func65, Try.ntmps65
    go_wp2
    go_ret
    exact ⟨rfl, Below.refl _ _⟩
end Go.Proofs.Ytpalbpakeokimaa.PK
