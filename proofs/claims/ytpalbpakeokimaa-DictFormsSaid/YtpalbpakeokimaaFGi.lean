/- tinder: a part of the proof, joined and pruned by wip/tools/prune.py out of: Gi -/
import Derived.Test.YtpalbpakeokimaaFK11
import Derived.Test.YtpalbpakeokimaaFGt
import Derived.Outline
namespace Go.Proofs.Ytpalbpakeokimaa.PK
set_option linter.unusedVariables false
set_option linter.unusedSimpArgs false
open Go.RowKit Go.Proofs.YtpalbpakeokimaaW.PrintWords Go.Proofs.YtpalbpakeokimaaW.PrintLast Go.Proofs.YtpalbpakeokimaaW.PrintMore
open Go.Shelf
theorem rd_at (l : List Int) (k : Nat) (h : k < l.length) : rd l (k : Int) = l[k] := by simp [rd, h]
theorem ne_of_rd {l0 l1 : List Int} {k : Nat} (h0 : k < l0.length) (h1 : k < l1.length) (h : ¬ rd l0 (k : Int) = rd l1 (k : Int)) : decide (l0 = l1) = false := by
  apply decide_eq_false
  rintro rfl
  exact h rfl
theorem take_succ_eq {l0 l1 : List Int} {k : Nat} (h0 : k < l0.length) (h1 : k < l1.length) (ht : l0.take k = l1.take k) (h : rd l0 (k : Int) = rd l1 (k : Int)) : l0.take (k + 1) = l1.take (k + 1) := by
  rw [rd_at l0 k h0, rd_at l1 k h1] at h
  rw [List.take_succ_eq_append_getElem h0, List.take_succ_eq_append_getElem h1, ht, h]
set_option maxHeartbeats 2000000 in
set_option maxRecDepth 100000 in
theorem eq91 (A0 : Option Addr) (c0 : Nat) (l0 : List Int) (A1 : Option Addr) (c1 : Nat) (l1 : List Int) (w : World) (hr0 : Kd.C (Kd.int .u32) w A0 l0.length l0) (hc0 : l0.length ≤ c0) (hr1 : Kd.C (Kd.int .u32) w A1 l1.length l1) (hc1 : l1.length ≤ c1) :
    Calls Try.prog 91 #[.slice A0 l0.length c0, .slice A1 l1.length c1] w fun e w' => e = .returned (.bool (decide (l0 = l1))) ∧ Drawn0 w w' := by
  have HR0 := Aside0.mk hr0
  have HR1 := Aside0.mk hr1
  have hmx := hr0.2.1
  have hmx1 := hr1.2.1
  clear hr0 hr1 hc0 hc1
  by_cases hl : l0.length = l1.length
  · have d1 : ((l0.length : Int) != (l1.length : Int)) = false := by rw [bne_eq_false_iff_eq]; omega
    have d2 : (l0.length != l1.length) = false := by rw [bne_eq_false_iff_eq]; omega
    have HL := Aside0.mk hl
    clear hl
    go_enter Try.func91, Try.ntmps91
    go_wp2
    go_loopg [5, 13] l0.length (fun gg _ s13 wr => ∃ kk : Nat, kk ≤ l0.length ∧ l0.length - kk ≤ gg ∧ s13 = .int .i64 kk ∧ Aside0 (l0.take kk = l1.take kk) ∧ Drawn0 w wr)
    case atStart => exact ⟨0, Nat.zero_le _, by omega, rfl, ⟨rfl⟩, Drawn0.refl _⟩
    case round =>
      obtain ⟨kk, hkk, hg, rfl, HT, ⟨m, rfl⟩⟩ := hrel
      by_cases hlt : kk < l0.length
      · have hltz : (kk : Int) < (l0.length : Int) := by omega
        have hlt1 : kk < l1.length := by have := HL.out; omega
        have hltz1 : (kk : Int) < (l1.length : Int) := by omega
        obtain ⟨ad, e1, h0⟩ := at_int HR0.out (kk : Int) (by omega) hltz
        obtain ⟨ad1, e2, h1⟩ := at_int HR1.out (kk : Int) (by omega) hltz1
        cases e1
        cases e2
        simp only [Int.toNat_natCast] at h0 h1
        have H2 := Aside0.mk (fun h => take_succ_eq hlt hlt1 HT.out h)
        have H3 := Aside0.mk (fun h => ne_of_rd hlt hlt1 h)
        generalize rd l0 (kk : Int) = x0 at *
        generalize rd l1 (kk : Int) = x1 at *
        by_cases hx : x0 = x1
        · have d3 : (x0 != x1) = false := by rw [bne_eq_false_iff_eq]; exact hx
          have H4 := Aside0.mk (H2.out hx)
          clear hx
          go_wp2
          go_quiet (fail)
          go_wp2
          go_roundg (l0.length - (kk + 1))
          case measure => omega
          case rel => exact ⟨kk + 1, by omega, by omega, by go_num, H4, (by repeat (first | exact Drawn0.refl _ | apply Drawn0.step))⟩
        · have d3 : (x0 != x1) = true := by rw [bne_iff_ne]; exact hx
          have H4 := Aside0.mk (H3.out hx)
          clear hx
          go_wp2
          go_quiet (fail)
          go_wp2
          go_ret
          exact ⟨by rw [H4.out]; rfl, (by repeat (first | exact Drawn0.refl _ | apply Drawn0.step))⟩
      · have hltz : ¬ (kk : Int) < (l0.length : Int) := by omega
        have H4 : decide (l0 = l1) = true := by
          apply decide_eq_true
          have := HT.out
          rw [List.take_of_length_le (by omega), List.take_of_length_le (by have := HL.out; omega)] at this
          exact this
        have H5 := Aside0.mk H4
        clear H4
        go_wp2
        go_ret
        exact ⟨by rw [H5.out]; rfl, (by repeat (first | exact Drawn0.refl _ | apply Drawn0.step))⟩
  · have d1 : ((l0.length : Int) != (l1.length : Int)) = true := by rw [bne_iff_ne]; omega
    have d2 : (l0.length != l1.length) = true := by rw [bne_iff_ne]; omega
    have H5 := Aside0.mk (show decide (l0 = l1) = false from decide_eq_false fun h => hl (by rw [h]))
    clear hl
    go_enter Try.func91, Try.ntmps91
    go_wp2
    go_ret
    exact ⟨by rw [H5.out]; rfl, Drawn0.refl _⟩
set_option maxHeartbeats 1000000 in
theorem is68 (p : Int) (s : ByteArray) (A : Option Addr) (n c : Nat) (w : World) : Calls Try.prog 68 #[.int .i64 p, .string s, .slice A n c] w fun e w' =>
    e = .returned (.func (.func 90) #[] #[.pointer (some ⟨w.heap.size, 0, none⟩), .pointer (some ⟨w.heap.size + 1, 0, none⟩), .pointer (some ⟨w.heap.size + 2, 0, none⟩)]) ∧
    w' = ((w.alloc (.cells #[.int .i64 p] 3)).alloc (.cells #[.string s] 9)).alloc (.cells #[.slice A n c] 27) := by
  go_enter Try.func68, Try.ntmps68
  go_wp2
  go_ret
  exact ⟨rfl, rfl⟩
def isB (p : Int) (s : ByteArray) (u : List Int) (x : S92) : Bool := (x.f2 == p) && (x.f0.toList == s.toList) && decide (x.f1 = u)
set_option maxHeartbeats 2000000 in
theorem is90 (p : Int) (s : ByteArray) (A : Option Addr) (u : List Int) (cu B : Nat) (x : S92) (c : List Value) (W : World)
    (h1 : W.cell? ⟨B, 0, none⟩ = some (.int .i64 p)) (h2 : W.cell? ⟨B + 1, 0, none⟩ = some (.string s)) (h3 : W.cell? ⟨B + 2, 0, none⟩ = some (.slice A u.length cu)) (hu : Kd.C (Kd.int .u32) W A u.length u) (hcu : u.length ≤ cu) (hK : k92.K W x c) :
    Calls Try.prog 90 (#[.agg c.toArray] ++ #[.pointer (some ⟨B, 0, none⟩), .pointer (some ⟨B + 1, 0, none⟩), .pointer (some ⟨B + 2, 0, none⟩)]) W fun e w' => e = .returned (.bool (isB p s u x)) ∧ Below W.heap.size W w' := by
  obtain ⟨A1, c1, A3, c3, A4, c4, rfl, l1, g1, l3, g3, l4, g4⟩ := k92_open hK
  have hlt := World.block_lt_of_cell? W _ h3
  have hlt1 : B + 1 < W.heap.size := by simp at hlt; omega
  have hlt2 : B < W.heap.size := by omega
  have hlt3 : B + 2 < W.heap.size := by simpa using hlt
  clear hlt
  have he : ∀ W', Below W.heap.size W W' → Calls Try.prog 91 #[.slice A1 x.f1.length c1, .slice A u.length cu] W' fun e w' => e = .returned (.bool (decide (x.f1 = u))) ∧ Drawn0 W' w' := fun W' hb => eq91 A1 c1 x.f1 A cu u W' (Kd.C_below g1 hb) l1 (Kd.C_below hu hb) hcu
  have HE := Aside0.mk he
  clear hK g1 g3 g4 he hu l3 l4
  obtain ⟨n0, u0, p0, pr0, ce0⟩ := x
  simp only at *
  generalize hD : decide (u0 = u) = D at *
  have HI := Aside0.mk (show isB p s u ⟨n0, u0, p0, pr0, ce0⟩ = ((p0 == p) && (n0.toList == s.toList) && D) by rw [← hD]; rfl)
  clear hD
  by_cases e1 : p0 = p
  · have d1 : (p0 == p) = true := by simpa using e1
    rw [d1] at HI
    clear e1
    by_cases e2 : n0.toList = s.toList
    · have d2 : (n0.toList == s.toList) = true := by simpa using e2
      rw [d2] at HI
      clear e2
      go_enter Try.func90, Try.ntmps90
      go_wp2_with (go_at_call 91; refine (HE.out _ (by repeat (first | exact Below.refl _ _ | apply below_alloc))).mono ?_; rintro e w' ⟨rfl, m, rfl⟩)
      go_ret
      exact ⟨by rw [HI.out]; rfl, pw_below_drewN (below_alloc (Below.refl _ _) _) _⟩
    · have d2 : (n0.toList == s.toList) = false := by simpa using e2
      rw [d2] at HI
      clear e2
      go_enter Try.func90, Try.ntmps90
      go_wp2
      go_ret
      exact ⟨by rw [HI.out]; rfl, below_alloc (Below.refl _ _) _⟩
  · have d1 : (p0 == p) = false := by simpa using e1
    rw [d1] at HI
    clear e1
    go_enter Try.func90, Try.ntmps90
    go_wp2
    go_ret
    exact ⟨by rw [HI.out]; rfl, below_alloc (Below.refl _ _) _⟩
theorem is_pred (p : Int) (s : ByteArray) (A : Option Addr) (u : List Int) (cu B : Nat) (w : World)
    (h1 : w.cell? ⟨B, 0, none⟩ = some (.int .i64 p)) (h2 : w.cell? ⟨B + 1, 0, none⟩ = some (.string s)) (h3 : w.cell? ⟨B + 2, 0, none⟩ = some (.slice A u.length cu)) (hu : Kd.C (Kd.int .u32) w A u.length u) (hcu : u.length ≤ cu) :
    PredK Try.prog k92 90 #[.pointer (some ⟨B, 0, none⟩), .pointer (some ⟨B + 1, 0, none⟩), .pointer (some ⟨B + 2, 0, none⟩)] (isB p s u) w := by
  intro W x c hb hK
  exact is90 p s A u cu B x c W (pw_cell_below hb h1) (pw_cell_below hb h2) (pw_cell_below hb h3) (Kd.C_below hu hb) hcu hK
end Go.Proofs.Ytpalbpakeokimaa.PK
