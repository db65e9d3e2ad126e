/- tinder: a part of the proof, joined and pruned by wip/tools/prune.py out of: K87 -/
import Derived.Test.YtpalbpakeokimaaFGa
import Derived.Test.YtpalbpakeokimaaFK0
import Derived.Test.YtpalbpakeokimaaFK41
namespace Go.Proofs.Ytpalbpakeokimaa.PK
open Go.RowKit Go.Proofs.YtpalbpakeokimaaW.PrintWords Go.Proofs.YtpalbpakeokimaaW.PrintLast Go.Proofs.YtpalbpakeokimaaW.PrintMore
attribute [local go_sem] max2_int min2_int max_two min_two max_three min_three max_four min_four
set_option linter.unusedVariables false
set_option linter.unusedSimpArgs false
def dict_right.j0 : Nat → Int → List (S92) → Bool → ByteArray → Int → Int → Int → List (S57) → Option (Bool)
  | 0, _, _, _, _, _, _, _, _ => none
  | k + 1, x1, x2, x28, x331000, x331001, x331002, x331003, x331004 => if x28 = true then (some false) else (if x331002 = 2 then (if x331003 = 0 then ((dict_Sound.f k x331004 x1).bind fun t332 => (some t332)) else (some false)) else (if x331002 = 6 then (if (x331004.length : Int) = 0 then (some (decide ((wrap64 (x331003)) < x1))) else (some false)) else (if x331002 = 7 then (if (x331004.length : Int) = 0 then (if x331001 ≥ 0 then (if 0 ≤ x331001 then (if x331001 < (x2.length : Int) then (some (decide ((wrap64 (x331003)) < (((rd_T92 x2 x331001).f4).length : Int)))) else (none)) else (none)) else (some false)) else (some false)) else (if x331002 = 3 then (some ((x331004.length : Int) == 0)) else (if x331002 = 4 then (some ((x331004.length : Int) == 0)) else (if x331002 = 5 then (some ((x331004.length : Int) == 0)) else (some false)))))))
def dict_right.f (k : Nat) (a0_0 : ByteArray) (a0_1 : Int) (a0_2 : Int) (a0_3 : Int) (l0_4 : List (S57)) (a1 : Int) (l2 : List (S92)) : Option (Bool) := if a0_0.toList = ([] : List UInt8) then (if a0_1 < (-1) then (dict_right.j0 k a1 l2 true a0_0 a0_1 a0_2 a0_3 l0_4) else (dict_right.j0 k a1 l2 (decide (a0_1 ≥ (l2.length : Int))) a0_0 a0_1 a0_2 a0_3 l0_4)) else ((dict_Named.f a0_0).bind fun t331 => (if t331 = true then (if a0_1 < (-1) then (dict_right.j0 k a1 l2 true a0_0 a0_1 a0_2 a0_3 l0_4) else (dict_right.j0 k a1 l2 (decide (a0_1 ≥ (l2.length : Int))) a0_0 a0_1 a0_2 a0_3 l0_4)) else (dict_right.j0 k a1 l2 true a0_0 a0_1 a0_2 a0_3 l0_4)))
theorem dict_right.mono_l : ∀ k, (∀ y0 y1 y2 y3 y4 y5 y6 y7, LeO (dict_right.j0 k y0 y1 y2 y3 y4 y5 y6 y7) (dict_right.j0 (k + 1) y0 y1 y2 y3 y4 y5 y6 y7))
  | 0 => fun _ _ _ _ _ _ _ _ r h => by simp [dict_right.j0] at h
  | k + 1 => by
    have ih0 := dict_right.mono_l k
    · intro y0 y1 y2 y3 y4 y5 y6 y7
      unfold dict_right.j0
      repeat' first
      | (with_reducible exact ih0 _ _ _ _ _ _ _ _)
      | (with_reducible exact dict_Sound.mono _ _ _)
      | (with_reducible exact LeO.refl _)
      | (with_reducible exact LeO.none _)
      | (with_reducible refine LeO.ite ?_ ?_)
      | (with_reducible refine LeO.bind ?_ (fun _ => ?_))
      | exact ih0 _ _ _ _ _ _ _ _
      | exact dict_Sound.mono _ _ _
      | exact LeO.none _
      | refine LeO.ite ?_ ?_
      | refine LeO.bind ?_ (fun _ => ?_)
theorem dict_right.mono : ∀ a0 a1 a2 a3 a4 a5 a6 k, LeO (dict_right.f k a0 a1 a2 a3 a4 a5 a6) (dict_right.f (k + 1) a0 a1 a2 a3 a4 a5 a6) := by
  intro a0 a1 a2 a3 a4 a5 a6 k
  have ih0 := dict_right.mono_l k
  unfold dict_right.f
  repeat' first
      | (with_reducible exact ih0 _ _ _ _ _ _ _ _)
      | (with_reducible exact dict_Sound.mono _ _ _)
      | (with_reducible exact LeO.refl _)
      | (with_reducible exact LeO.none _)
      | (with_reducible refine LeO.ite ?_ ?_)
      | (with_reducible refine LeO.bind ?_ (fun _ => ?_))
      | exact ih0 _ _ _ _ _ _ _ _
      | exact dict_Sound.mono _ _ _
      | exact LeO.none _
      | refine LeO.ite ?_ ?_
      | refine LeO.bind ?_ (fun _ => ?_)
set_option maxHeartbeats 8000000 in
set_option maxRecDepth 100000 in
theorem dict_right.calls (k : Nat) (a0_0 : ByteArray) (a0_1 : Int) (a0_2 : Int) (a0_3 : Int) (A0_4 : Option Addr) (c0_4 : Nat) (l0_4 : List (S57)) (a1 : Int) (A2 : Option Addr) (c2 : Nat) (l2 : List (S92)) (r : Bool) (w : World) (hr0_4 : Kd.C k57 w A0_4 l0_4.length l0_4) (hc0_4 : l0_4.length ≤ c0_4) (hr2 : Kd.C k92 w A2 l2.length l2) (hc2 : l2.length ≤ c2) (h : dict_right.f k a0_0 a0_1 a0_2 a0_3 l0_4 a1 l2 = some r) :
    Calls Try.prog 59 #[.agg #[.string a0_0, .int .i64 a0_1, .int .i64 a0_2, .int .u32 a0_3, .slice A0_4 l0_4.length c0_4], .int .i64 a1, .slice A2 l2.length c2] w fun e w' => e = .returned (.bool r) ∧ Below w.heap.size w w' := by
  have hu45 := Try.underlying45
  have HR0_4 := Aside0.mk hr0_4
  have HC0_4 := Aside0.mk hc0_4
  clear hr0_4 hc0_4
  have HR2 := Aside0.mk hr2
  have HC2 := Aside0.mk hc2
  clear hr2 hc2
  have HB := Aside0.mk (Below.refl w.heap.size w)
  have H : (if a0_0.toList = ([] : List UInt8) then (if a0_1 < (-1) then (dict_right.j0 k a1 l2 true a0_0 a0_1 a0_2 a0_3 l0_4) else (dict_right.j0 k a1 l2 (decide (a0_1 ≥ (l2.length : Int))) a0_0 a0_1 a0_2 a0_3 l0_4)) else ((dict_Named.f a0_0).bind fun t331 => (if t331 = true then (if a0_1 < (-1) then (dict_right.j0 k a1 l2 true a0_0 a0_1 a0_2 a0_3 l0_4) else (dict_right.j0 k a1 l2 (decide (a0_1 ≥ (l2.length : Int))) a0_0 a0_1 a0_2 a0_3 l0_4)) else (dict_right.j0 k a1 l2 true a0_0 a0_1 a0_2 a0_3 l0_4)))) = some r := h
  clear h
  have HC4 := Aside0.mk H
  clear H
  go_enter Try.func59, Try.ntmps59
  go_upto_region 1 with (first | ((with_reducible refine gate_dst (N := 3) rfl ?_); (try (refine gate_guard (by rfl) ?_; dsimp only)); refine box_event ?hg (N := 3) ?hd (cs := #[.string a0_0, .int .i64 a0_1, .int .i64 a0_2, .int .u32 a0_3, .slice A0_4 l0_4.length c0_4]) (t := 45) ?hr ?_; (case hd => rfl); (case hg => rfl); (case hr => first | (go_simp; done) | (go_simp; rfl)); intro gb330 hg w5 hbox hb; have n0_ := Aside0.mk (below_step (by repeat (first | (with_reducible first | exact HB.out | apply below_alloc | apply pw_below_drewN | apply below_drew1) | exact HB.out)) hb); have n1_ := Aside0.mk (hbox); have n2_ := Aside0.mk ((by rw [hg]; exact (below_size (by repeat (first | (with_reducible first | exact HB.out | apply below_alloc | apply pw_below_drewN | apply below_drew1) | exact HB.out))) : w.heap.size ≤ gb330)); have n3_ := Aside0.mk ((by rw [hg]; exact (below_size (by repeat (first | (with_reducible first | exact HB.out | apply below_alloc | apply pw_below_drewN | apply below_drew1) | exact HB.out))) : w.heap.size ≤ gb330)); clear HB; have HB := n0_; have BK330 := n1_; have GW330 := n2_; have GE330 := n3_; clear n0_ n1_ n2_ n3_; clear hb hbox hg))
  repeat (go_quiet (first | ((with_reducible refine gate_dst (N := 3) rfl ?_); (try (refine gate_guard (by rfl) ?_; dsimp only)); refine box_event ?hg (N := 3) ?hd (cs := #[.string a0_0, .int .i64 a0_1, .int .i64 a0_2, .int .u32 a0_3, .slice A0_4 l0_4.length c0_4]) (t := 45) ?hr ?_; (case hd => rfl); (case hg => rfl); (case hr => first | (go_simp; done) | (go_simp; rfl)); intro gb330 hg w5 hbox hb; have n0_ := Aside0.mk (below_step (by repeat (first | (with_reducible first | exact HB.out | apply below_alloc | apply pw_below_drewN | apply below_drew1) | exact HB.out)) hb); have n1_ := Aside0.mk (hbox); have n2_ := Aside0.mk ((by rw [hg]; exact (below_size (by repeat (first | (with_reducible first | exact HB.out | apply below_alloc | apply pw_below_drewN | apply below_drew1) | exact HB.out))) : w.heap.size ≤ gb330)); have n3_ := Aside0.mk ((by rw [hg]; exact (below_size (by repeat (first | (with_reducible first | exact HB.out | apply below_alloc | apply pw_below_drewN | apply below_drew1) | exact HB.out))) : w.heap.size ≤ gb330)); clear HB; have HB := n0_; have BK330 := n1_; have GW330 := n2_; have GE330 := n3_; clear n0_ n1_ n2_ n3_; clear hb hbox hg)); go_upto_region 1 with (first | ((with_reducible refine gate_dst (N := 3) rfl ?_); (try (refine gate_guard (by rfl) ?_; dsimp only)); refine box_event ?hg (N := 3) ?hd (cs := #[.string a0_0, .int .i64 a0_1, .int .i64 a0_2, .int .u32 a0_3, .slice A0_4 l0_4.length c0_4]) (t := 45) ?hr ?_; (case hd => rfl); (case hg => rfl); (case hr => first | (go_simp; done) | (go_simp; rfl)); intro gb330 hg w5 hbox hb; have n0_ := Aside0.mk (below_step (by repeat (first | (with_reducible first | exact HB.out | apply below_alloc | apply pw_below_drewN | apply below_drew1) | exact HB.out)) hb); have n1_ := Aside0.mk (hbox); have n2_ := Aside0.mk ((by rw [hg]; exact (below_size (by repeat (first | (with_reducible first | exact HB.out | apply below_alloc | apply pw_below_drewN | apply below_drew1) | exact HB.out))) : w.heap.size ≤ gb330)); have n3_ := Aside0.mk ((by rw [hg]; exact (below_size (by repeat (first | (with_reducible first | exact HB.out | apply below_alloc | apply pw_below_drewN | apply below_drew1) | exact HB.out))) : w.heap.size ≤ gb330)); clear HB; have HB := n0_; have BK330 := n1_; have GW330 := n2_; have GE330 := n3_; clear n0_ n1_ n2_ n3_; clear hb hbox hg)))
  (try simp only [Act.put, List.setIfInBounds_toArray, List.set_cons_zero, List.set_cons_succ])
  go_cut [28] (fun v28 wc => ∃ (kq : Nat) (x28_3 : Bool), v28 = .bool x28_3 ∧ Aside0 (dict_right.j0 kq a1 l2 x28_3 a0_0 a0_1 a0_2 a0_3 l0_4 = some r) ∧ Aside0 (kq ≤ k) ∧ Aside0 (wc.heap[gb330]? = some (.cells #[.string a0_0, .int .i64 a0_1, .int .i64 a0_2, .int .u32 a0_3, (.slice A0_4 l0_4.length c0_4)] 45 (0, 0))) ∧ Aside0 (Below w.heap.size w wc))
  case first =>
    have H := HC4.out
    clear HC4
    by_cases c6 : a0_0.toList = ([] : List UInt8)
    · rw [if_pos c6] at H
      have c6b0 : (a0_0.toList == ([] : List UInt8)) = true := beq_iff_eq.mpr c6
      have c6b1 : (a0_0.toList != ([] : List UInt8)) = false := bne_eq_false_iff_eq.mpr c6
      clear c6
      (first | rw [c6b0] | (simp only [i64_w, i32_w]; rw [c6b0]) | skip)
      by_cases c7 : a0_1 < (-1)
      · rw [if_pos c7] at H
        have c7b0 : decide (a0_1 < (-1)) = true := decide_eq_true c7
        clear c7
        have H' := Aside0.mk H
        clear H
        have hcz8_0 : w5.cell? ⟨gb330, 0, none⟩ = some (.string a0_0) := (blk_cell BK330.out 0).trans rfl
        have hcz8_1 : w5.cell? ⟨gb330, 1, none⟩ = some (.int .i64 a0_1) := (blk_cell BK330.out 1).trans rfl
        have hcz8_2 : w5.cell? ⟨gb330, 2, none⟩ = some (.int .i64 a0_2) := (blk_cell BK330.out 2).trans rfl
        have hcz8_3 : w5.cell? ⟨gb330, 3, none⟩ = some (.int .u32 a0_3) := (blk_cell BK330.out 3).trans rfl
        have hcz8_4 : w5.cell? ⟨gb330, 4, none⟩ = some (.slice A0_4 l0_4.length c0_4) := (blk_cell BK330.out 4).trans rfl
        have hfz8_0 := blk_frozen BK330.out 0
        have hfz8_1 := blk_frozen BK330.out 1
        have hfz8_2 := blk_frozen BK330.out 2
        have hfz8_3 := blk_frozen BK330.out 3
        have hfz8_4 := blk_frozen BK330.out 4
        go_wp2
        repeat (go_quiet (fail); try go_wp2)
        go_meet
        case rel => exact ⟨_, (true), (by first | rfl | (simp; done) | (simp [*]; done)), H', ⟨by first | omega | exact Nat.le_refl _⟩, ⟨by (with_reducible repeat (first | refine blk_drewN ?_ _ | refine blk_drew ?_ | refine blk_alloc ?_ _)); exact BK330.out⟩, ⟨by repeat (first | (with_reducible first | exact HB.out | apply below_alloc | apply pw_below_drewN | apply below_drew1 | refine below_set ?_ GE330.out) | exact HB.out)⟩⟩
      · rw [if_neg c7] at H
        have c7b0 : decide (a0_1 < (-1)) = false := decide_eq_false c7
        clear c7
        have H' := Aside0.mk H
        clear H
        have hcz9_0 : w5.cell? ⟨gb330, 0, none⟩ = some (.string a0_0) := (blk_cell BK330.out 0).trans rfl
        have hcz9_1 : w5.cell? ⟨gb330, 1, none⟩ = some (.int .i64 a0_1) := (blk_cell BK330.out 1).trans rfl
        have hcz9_2 : w5.cell? ⟨gb330, 2, none⟩ = some (.int .i64 a0_2) := (blk_cell BK330.out 2).trans rfl
        have hcz9_3 : w5.cell? ⟨gb330, 3, none⟩ = some (.int .u32 a0_3) := (blk_cell BK330.out 3).trans rfl
        have hcz9_4 : w5.cell? ⟨gb330, 4, none⟩ = some (.slice A0_4 l0_4.length c0_4) := (blk_cell BK330.out 4).trans rfl
        have hfz9_0 := blk_frozen BK330.out 0
        have hfz9_1 := blk_frozen BK330.out 1
        have hfz9_2 := blk_frozen BK330.out 2
        have hfz9_3 := blk_frozen BK330.out 3
        have hfz9_4 := blk_frozen BK330.out 4
        go_wp2
        repeat (go_quiet (fail); try go_wp2)
        go_meet
        case rel => exact ⟨_, (decide (a0_1 ≥ (l2.length : Int))), (by first | rfl | (simp; done) | (simp [*]; done)), H', ⟨by first | omega | exact Nat.le_refl _⟩, ⟨by (with_reducible repeat (first | refine blk_drewN ?_ _ | refine blk_drew ?_ | refine blk_alloc ?_ _)); exact BK330.out⟩, ⟨by repeat (first | (with_reducible first | exact HB.out | apply below_alloc | apply pw_below_drewN | apply below_drew1 | refine below_set ?_ GE330.out) | exact HB.out)⟩⟩
    · rw [if_neg c6] at H
      have c6b0 : (a0_0.toList == ([] : List UInt8)) = false := beq_eq_false_iff_ne.mpr c6
      have c6b1 : (a0_0.toList != ([] : List UInt8)) = true := bne_iff_ne.mpr c6
      (first | rw [c6b0] | (simp only [i64_w, i32_w]; rw [c6b0]) | skip)
      replace H := Option.bind_eq_some_iff.mp H
      obtain ⟨t331, A100, H⟩ := H
      replace H : (if t331 = true then (if a0_1 < (-1) then (dict_right.j0 k a1 l2 true a0_0 a0_1 a0_2 a0_3 l0_4) else (dict_right.j0 k a1 l2 (decide (a0_1 ≥ (l2.length : Int))) a0_0 a0_1 a0_2 a0_3 l0_4)) else (dict_right.j0 k a1 l2 true a0_0 a0_1 a0_2 a0_3 l0_4)) = some r := H
      have A10 := Aside0.mk A100
      clear A100
      by_cases c11 : t331 = true
      · subst c11
        have H1 : (if a0_1 < (-1) then (dict_right.j0 k a1 l2 true a0_0 a0_1 a0_2 a0_3 l0_4) else (dict_right.j0 k a1 l2 (decide (a0_1 ≥ (l2.length : Int))) a0_0 a0_1 a0_2 a0_3 l0_4)) = some r := by rw [if_pos rfl] at H; exact H
        clear H
        have H := H1
        clear H1
        by_cases c12 : a0_1 < (-1)
        · rw [if_pos c12] at H
          have c12b0 : decide (a0_1 < (-1)) = true := decide_eq_true c12
          clear c12
          have H' := Aside0.mk H
          clear H
          have hcz13_0 : w5.cell? ⟨gb330, 0, none⟩ = some (.string a0_0) := (blk_cell BK330.out 0).trans rfl
          have hcz13_1 : w5.cell? ⟨gb330, 1, none⟩ = some (.int .i64 a0_1) := (blk_cell BK330.out 1).trans rfl
          have hcz13_2 : w5.cell? ⟨gb330, 2, none⟩ = some (.int .i64 a0_2) := (blk_cell BK330.out 2).trans rfl
          have hcz13_3 : w5.cell? ⟨gb330, 3, none⟩ = some (.int .u32 a0_3) := (blk_cell BK330.out 3).trans rfl
          have hcz13_4 : w5.cell? ⟨gb330, 4, none⟩ = some (.slice A0_4 l0_4.length c0_4) := (blk_cell BK330.out 4).trans rfl
          have hfz13_0 := blk_frozen BK330.out 0
          have hfz13_1 := blk_frozen BK330.out 1
          have hfz13_2 := blk_frozen BK330.out 2
          have hfz13_3 := blk_frozen BK330.out 3
          have hfz13_4 := blk_frozen BK330.out 4
          go_wp2_with (first | (go_at_call 12; (with_reducible refine (dict_Named.calls a0_0 true _ A10.out).mono ?_); rintro e w14 ⟨rfl, hb⟩; have n0_ := Aside0.mk (blk_below (g := gb330) (o := .cells #[.string a0_0, .int .i64 a0_1, .int .i64 a0_2, .int .u32 a0_3, .slice A0_4 l0_4.length c0_4] 45 (0, 0)) (by (with_reducible repeat (first | refine blk_drewN ?_ _ | refine blk_drew ?_ | refine blk_alloc ?_ _)); exact BK330.out) hb); have n1_ := Aside0.mk (below_step (by repeat (first | (with_reducible first | exact HB.out | apply below_alloc | apply pw_below_drewN | apply below_drew1 | refine below_set ?_ GE330.out) | exact HB.out)) hb); clear BK330; clear HB; have BK330 := n0_; have HB := n1_; clear n0_ n1_; (try clear hb); (try clear hb2); (try clear hk); (try clear hi); have hcz15_0 : w14.cell? ⟨gb330, 0, none⟩ = some (.string a0_0) := (blk_cell BK330.out 0).trans rfl; have hcz15_1 : w14.cell? ⟨gb330, 1, none⟩ = some (.int .i64 a0_1) := (blk_cell BK330.out 1).trans rfl; have hcz15_2 : w14.cell? ⟨gb330, 2, none⟩ = some (.int .i64 a0_2) := (blk_cell BK330.out 2).trans rfl; have hcz15_3 : w14.cell? ⟨gb330, 3, none⟩ = some (.int .u32 a0_3) := (blk_cell BK330.out 3).trans rfl; have hcz15_4 : w14.cell? ⟨gb330, 4, none⟩ = some (.slice A0_4 l0_4.length c0_4) := (blk_cell BK330.out 4).trans rfl; have hfz15_0 := blk_frozen BK330.out 0; have hfz15_1 := blk_frozen BK330.out 1; have hfz15_2 := blk_frozen BK330.out 2; have hfz15_3 := blk_frozen BK330.out 3; have hfz15_4 := blk_frozen BK330.out 4))
          repeat (go_quiet (first | (go_at_call 12; (with_reducible refine (dict_Named.calls a0_0 true _ A10.out).mono ?_); rintro e w14 ⟨rfl, hb⟩; have n0_ := Aside0.mk (blk_below (g := gb330) (o := .cells #[.string a0_0, .int .i64 a0_1, .int .i64 a0_2, .int .u32 a0_3, .slice A0_4 l0_4.length c0_4] 45 (0, 0)) (by (with_reducible repeat (first | refine blk_drewN ?_ _ | refine blk_drew ?_ | refine blk_alloc ?_ _)); exact BK330.out) hb); have n1_ := Aside0.mk (below_step (by repeat (first | (with_reducible first | exact HB.out | apply below_alloc | apply pw_below_drewN | apply below_drew1 | refine below_set ?_ GE330.out) | exact HB.out)) hb); clear BK330; clear HB; have BK330 := n0_; have HB := n1_; clear n0_ n1_; (try clear hb); (try clear hb2); (try clear hk); (try clear hi); have hcz15_0 : w14.cell? ⟨gb330, 0, none⟩ = some (.string a0_0) := (blk_cell BK330.out 0).trans rfl; have hcz15_1 : w14.cell? ⟨gb330, 1, none⟩ = some (.int .i64 a0_1) := (blk_cell BK330.out 1).trans rfl; have hcz15_2 : w14.cell? ⟨gb330, 2, none⟩ = some (.int .i64 a0_2) := (blk_cell BK330.out 2).trans rfl; have hcz15_3 : w14.cell? ⟨gb330, 3, none⟩ = some (.int .u32 a0_3) := (blk_cell BK330.out 3).trans rfl; have hcz15_4 : w14.cell? ⟨gb330, 4, none⟩ = some (.slice A0_4 l0_4.length c0_4) := (blk_cell BK330.out 4).trans rfl; have hfz15_0 := blk_frozen BK330.out 0; have hfz15_1 := blk_frozen BK330.out 1; have hfz15_2 := blk_frozen BK330.out 2; have hfz15_3 := blk_frozen BK330.out 3; have hfz15_4 := blk_frozen BK330.out 4)); try go_wp2_with (first | (go_at_call 12; (with_reducible refine (dict_Named.calls a0_0 true _ A10.out).mono ?_); rintro e w14 ⟨rfl, hb⟩; have n0_ := Aside0.mk (blk_below (g := gb330) (o := .cells #[.string a0_0, .int .i64 a0_1, .int .i64 a0_2, .int .u32 a0_3, .slice A0_4 l0_4.length c0_4] 45 (0, 0)) (by (with_reducible repeat (first | refine blk_drewN ?_ _ | refine blk_drew ?_ | refine blk_alloc ?_ _)); exact BK330.out) hb); have n1_ := Aside0.mk (below_step (by repeat (first | (with_reducible first | exact HB.out | apply below_alloc | apply pw_below_drewN | apply below_drew1 | refine below_set ?_ GE330.out) | exact HB.out)) hb); clear BK330; clear HB; have BK330 := n0_; have HB := n1_; clear n0_ n1_; (try clear hb); (try clear hb2); (try clear hk); (try clear hi); have hcz15_0 : w14.cell? ⟨gb330, 0, none⟩ = some (.string a0_0) := (blk_cell BK330.out 0).trans rfl; have hcz15_1 : w14.cell? ⟨gb330, 1, none⟩ = some (.int .i64 a0_1) := (blk_cell BK330.out 1).trans rfl; have hcz15_2 : w14.cell? ⟨gb330, 2, none⟩ = some (.int .i64 a0_2) := (blk_cell BK330.out 2).trans rfl; have hcz15_3 : w14.cell? ⟨gb330, 3, none⟩ = some (.int .u32 a0_3) := (blk_cell BK330.out 3).trans rfl; have hcz15_4 : w14.cell? ⟨gb330, 4, none⟩ = some (.slice A0_4 l0_4.length c0_4) := (blk_cell BK330.out 4).trans rfl; have hfz15_0 := blk_frozen BK330.out 0; have hfz15_1 := blk_frozen BK330.out 1; have hfz15_2 := blk_frozen BK330.out 2; have hfz15_3 := blk_frozen BK330.out 3; have hfz15_4 := blk_frozen BK330.out 4)))
          go_meet
          case rel => exact ⟨_, (true), (by first | rfl | (simp; done) | (simp [*]; done)), H', ⟨by first | omega | exact Nat.le_refl _⟩, ⟨by (with_reducible repeat (first | refine blk_drewN ?_ _ | refine blk_drew ?_ | refine blk_alloc ?_ _)); exact BK330.out⟩, ⟨by repeat (first | (with_reducible first | exact HB.out | apply below_alloc | apply pw_below_drewN | apply below_drew1 | refine below_set ?_ GE330.out) | exact HB.out)⟩⟩
        · rw [if_neg c12] at H
          have c12b0 : decide (a0_1 < (-1)) = false := decide_eq_false c12
          clear c12
          have H' := Aside0.mk H
          clear H
          have hcz16_0 : w5.cell? ⟨gb330, 0, none⟩ = some (.string a0_0) := (blk_cell BK330.out 0).trans rfl
          have hcz16_1 : w5.cell? ⟨gb330, 1, none⟩ = some (.int .i64 a0_1) := (blk_cell BK330.out 1).trans rfl
          have hcz16_2 : w5.cell? ⟨gb330, 2, none⟩ = some (.int .i64 a0_2) := (blk_cell BK330.out 2).trans rfl
          have hcz16_3 : w5.cell? ⟨gb330, 3, none⟩ = some (.int .u32 a0_3) := (blk_cell BK330.out 3).trans rfl
          have hcz16_4 : w5.cell? ⟨gb330, 4, none⟩ = some (.slice A0_4 l0_4.length c0_4) := (blk_cell BK330.out 4).trans rfl
          have hfz16_0 := blk_frozen BK330.out 0
          have hfz16_1 := blk_frozen BK330.out 1
          have hfz16_2 := blk_frozen BK330.out 2
          have hfz16_3 := blk_frozen BK330.out 3
          have hfz16_4 := blk_frozen BK330.out 4
          go_wp2_with (first | (go_at_call 12; (with_reducible refine (dict_Named.calls a0_0 true _ A10.out).mono ?_); rintro e w17 ⟨rfl, hb⟩; have n0_ := Aside0.mk (blk_below (g := gb330) (o := .cells #[.string a0_0, .int .i64 a0_1, .int .i64 a0_2, .int .u32 a0_3, .slice A0_4 l0_4.length c0_4] 45 (0, 0)) (by (with_reducible repeat (first | refine blk_drewN ?_ _ | refine blk_drew ?_ | refine blk_alloc ?_ _)); exact BK330.out) hb); have n1_ := Aside0.mk (below_step (by repeat (first | (with_reducible first | exact HB.out | apply below_alloc | apply pw_below_drewN | apply below_drew1 | refine below_set ?_ GE330.out) | exact HB.out)) hb); clear BK330; clear HB; have BK330 := n0_; have HB := n1_; clear n0_ n1_; (try clear hb); (try clear hb2); (try clear hk); (try clear hi); have hcz18_0 : w17.cell? ⟨gb330, 0, none⟩ = some (.string a0_0) := (blk_cell BK330.out 0).trans rfl; have hcz18_1 : w17.cell? ⟨gb330, 1, none⟩ = some (.int .i64 a0_1) := (blk_cell BK330.out 1).trans rfl; have hcz18_2 : w17.cell? ⟨gb330, 2, none⟩ = some (.int .i64 a0_2) := (blk_cell BK330.out 2).trans rfl; have hcz18_3 : w17.cell? ⟨gb330, 3, none⟩ = some (.int .u32 a0_3) := (blk_cell BK330.out 3).trans rfl; have hcz18_4 : w17.cell? ⟨gb330, 4, none⟩ = some (.slice A0_4 l0_4.length c0_4) := (blk_cell BK330.out 4).trans rfl; have hfz18_0 := blk_frozen BK330.out 0; have hfz18_1 := blk_frozen BK330.out 1; have hfz18_2 := blk_frozen BK330.out 2; have hfz18_3 := blk_frozen BK330.out 3; have hfz18_4 := blk_frozen BK330.out 4))
          repeat (go_quiet (first | (go_at_call 12; (with_reducible refine (dict_Named.calls a0_0 true _ A10.out).mono ?_); rintro e w17 ⟨rfl, hb⟩; have n0_ := Aside0.mk (blk_below (g := gb330) (o := .cells #[.string a0_0, .int .i64 a0_1, .int .i64 a0_2, .int .u32 a0_3, .slice A0_4 l0_4.length c0_4] 45 (0, 0)) (by (with_reducible repeat (first | refine blk_drewN ?_ _ | refine blk_drew ?_ | refine blk_alloc ?_ _)); exact BK330.out) hb); have n1_ := Aside0.mk (below_step (by repeat (first | (with_reducible first | exact HB.out | apply below_alloc | apply pw_below_drewN | apply below_drew1 | refine below_set ?_ GE330.out) | exact HB.out)) hb); clear BK330; clear HB; have BK330 := n0_; have HB := n1_; clear n0_ n1_; (try clear hb); (try clear hb2); (try clear hk); (try clear hi); have hcz18_0 : w17.cell? ⟨gb330, 0, none⟩ = some (.string a0_0) := (blk_cell BK330.out 0).trans rfl; have hcz18_1 : w17.cell? ⟨gb330, 1, none⟩ = some (.int .i64 a0_1) := (blk_cell BK330.out 1).trans rfl; have hcz18_2 : w17.cell? ⟨gb330, 2, none⟩ = some (.int .i64 a0_2) := (blk_cell BK330.out 2).trans rfl; have hcz18_3 : w17.cell? ⟨gb330, 3, none⟩ = some (.int .u32 a0_3) := (blk_cell BK330.out 3).trans rfl; have hcz18_4 : w17.cell? ⟨gb330, 4, none⟩ = some (.slice A0_4 l0_4.length c0_4) := (blk_cell BK330.out 4).trans rfl; have hfz18_0 := blk_frozen BK330.out 0; have hfz18_1 := blk_frozen BK330.out 1; have hfz18_2 := blk_frozen BK330.out 2; have hfz18_3 := blk_frozen BK330.out 3; have hfz18_4 := blk_frozen BK330.out 4)); try go_wp2_with (first | (go_at_call 12; (with_reducible refine (dict_Named.calls a0_0 true _ A10.out).mono ?_); rintro e w17 ⟨rfl, hb⟩; have n0_ := Aside0.mk (blk_below (g := gb330) (o := .cells #[.string a0_0, .int .i64 a0_1, .int .i64 a0_2, .int .u32 a0_3, .slice A0_4 l0_4.length c0_4] 45 (0, 0)) (by (with_reducible repeat (first | refine blk_drewN ?_ _ | refine blk_drew ?_ | refine blk_alloc ?_ _)); exact BK330.out) hb); have n1_ := Aside0.mk (below_step (by repeat (first | (with_reducible first | exact HB.out | apply below_alloc | apply pw_below_drewN | apply below_drew1 | refine below_set ?_ GE330.out) | exact HB.out)) hb); clear BK330; clear HB; have BK330 := n0_; have HB := n1_; clear n0_ n1_; (try clear hb); (try clear hb2); (try clear hk); (try clear hi); have hcz18_0 : w17.cell? ⟨gb330, 0, none⟩ = some (.string a0_0) := (blk_cell BK330.out 0).trans rfl; have hcz18_1 : w17.cell? ⟨gb330, 1, none⟩ = some (.int .i64 a0_1) := (blk_cell BK330.out 1).trans rfl; have hcz18_2 : w17.cell? ⟨gb330, 2, none⟩ = some (.int .i64 a0_2) := (blk_cell BK330.out 2).trans rfl; have hcz18_3 : w17.cell? ⟨gb330, 3, none⟩ = some (.int .u32 a0_3) := (blk_cell BK330.out 3).trans rfl; have hcz18_4 : w17.cell? ⟨gb330, 4, none⟩ = some (.slice A0_4 l0_4.length c0_4) := (blk_cell BK330.out 4).trans rfl; have hfz18_0 := blk_frozen BK330.out 0; have hfz18_1 := blk_frozen BK330.out 1; have hfz18_2 := blk_frozen BK330.out 2; have hfz18_3 := blk_frozen BK330.out 3; have hfz18_4 := blk_frozen BK330.out 4)))
          go_meet
          case rel => exact ⟨_, (decide (a0_1 ≥ (l2.length : Int))), (by first | rfl | (simp; done) | (simp [*]; done)), H', ⟨by first | omega | exact Nat.le_refl _⟩, ⟨by (with_reducible repeat (first | refine blk_drewN ?_ _ | refine blk_drew ?_ | refine blk_alloc ?_ _)); exact BK330.out⟩, ⟨by repeat (first | (with_reducible first | exact HB.out | apply below_alloc | apply pw_below_drewN | apply below_drew1 | refine below_set ?_ GE330.out) | exact HB.out)⟩⟩
      · replace c11 := Bool.eq_false_iff.mpr c11
        subst c11
        have H1 : (dict_right.j0 k a1 l2 true a0_0 a0_1 a0_2 a0_3 l0_4) = some r := by rw [if_neg (show ¬ (false = true) by decide)] at H; exact H
        clear H
        have H := H1
        clear H1
        have H' := Aside0.mk H
        clear H
        have hcz19_0 : w5.cell? ⟨gb330, 0, none⟩ = some (.string a0_0) := (blk_cell BK330.out 0).trans rfl
        have hcz19_1 : w5.cell? ⟨gb330, 1, none⟩ = some (.int .i64 a0_1) := (blk_cell BK330.out 1).trans rfl
        have hcz19_2 : w5.cell? ⟨gb330, 2, none⟩ = some (.int .i64 a0_2) := (blk_cell BK330.out 2).trans rfl
        have hcz19_3 : w5.cell? ⟨gb330, 3, none⟩ = some (.int .u32 a0_3) := (blk_cell BK330.out 3).trans rfl
        have hcz19_4 : w5.cell? ⟨gb330, 4, none⟩ = some (.slice A0_4 l0_4.length c0_4) := (blk_cell BK330.out 4).trans rfl
        have hfz19_0 := blk_frozen BK330.out 0
        have hfz19_1 := blk_frozen BK330.out 1
        have hfz19_2 := blk_frozen BK330.out 2
        have hfz19_3 := blk_frozen BK330.out 3
        have hfz19_4 := blk_frozen BK330.out 4
        go_wp2_with (first | (go_at_call 12; (with_reducible refine (dict_Named.calls a0_0 false _ A10.out).mono ?_); rintro e w20 ⟨rfl, hb⟩; have n0_ := Aside0.mk (blk_below (g := gb330) (o := .cells #[.string a0_0, .int .i64 a0_1, .int .i64 a0_2, .int .u32 a0_3, .slice A0_4 l0_4.length c0_4] 45 (0, 0)) (by (with_reducible repeat (first | refine blk_drewN ?_ _ | refine blk_drew ?_ | refine blk_alloc ?_ _)); exact BK330.out) hb); have n1_ := Aside0.mk (below_step (by repeat (first | (with_reducible first | exact HB.out | apply below_alloc | apply pw_below_drewN | apply below_drew1 | refine below_set ?_ GE330.out) | exact HB.out)) hb); clear BK330; clear HB; have BK330 := n0_; have HB := n1_; clear n0_ n1_; (try clear hb); (try clear hb2); (try clear hk); (try clear hi)))
        repeat (go_quiet (first | (go_at_call 12; (with_reducible refine (dict_Named.calls a0_0 false _ A10.out).mono ?_); rintro e w20 ⟨rfl, hb⟩; have n0_ := Aside0.mk (blk_below (g := gb330) (o := .cells #[.string a0_0, .int .i64 a0_1, .int .i64 a0_2, .int .u32 a0_3, .slice A0_4 l0_4.length c0_4] 45 (0, 0)) (by (with_reducible repeat (first | refine blk_drewN ?_ _ | refine blk_drew ?_ | refine blk_alloc ?_ _)); exact BK330.out) hb); have n1_ := Aside0.mk (below_step (by repeat (first | (with_reducible first | exact HB.out | apply below_alloc | apply pw_below_drewN | apply below_drew1 | refine below_set ?_ GE330.out) | exact HB.out)) hb); clear BK330; clear HB; have BK330 := n0_; have HB := n1_; clear n0_ n1_; (try clear hb); (try clear hb2); (try clear hk); (try clear hi))); try go_wp2_with (first | (go_at_call 12; (with_reducible refine (dict_Named.calls a0_0 false _ A10.out).mono ?_); rintro e w20 ⟨rfl, hb⟩; have n0_ := Aside0.mk (blk_below (g := gb330) (o := .cells #[.string a0_0, .int .i64 a0_1, .int .i64 a0_2, .int .u32 a0_3, .slice A0_4 l0_4.length c0_4] 45 (0, 0)) (by (with_reducible repeat (first | refine blk_drewN ?_ _ | refine blk_drew ?_ | refine blk_alloc ?_ _)); exact BK330.out) hb); have n1_ := Aside0.mk (below_step (by repeat (first | (with_reducible first | exact HB.out | apply below_alloc | apply pw_below_drewN | apply below_drew1 | refine below_set ?_ GE330.out) | exact HB.out)) hb); clear BK330; clear HB; have BK330 := n0_; have HB := n1_; clear n0_ n1_; (try clear hb); (try clear hb2); (try clear hk); (try clear hi))))
        go_meet
        case rel => exact ⟨_, (true), (by first | rfl | (simp; done) | (simp [*]; done)), H', ⟨by first | omega | exact Nat.le_refl _⟩, ⟨by (with_reducible repeat (first | refine blk_drewN ?_ _ | refine blk_drew ?_ | refine blk_alloc ?_ _)); exact BK330.out⟩, ⟨by repeat (first | (with_reducible first | exact HB.out | apply below_alloc | apply pw_below_drewN | apply below_drew1 | refine below_set ?_ GE330.out) | exact HB.out)⟩⟩
  case rest =>
    clear HC4
    try clear c1
    try clear c2
    try clear p2
    try clear c5
    try clear c6
    try clear c6b0
    try clear c6b1
    try clear c7
    try clear c7b0
    try clear c11
    try clear c12
    try clear c12b0
    try clear hcz13_0
    try clear hcz13_1
    try clear hcz13_2
    try clear hcz13_3
    try clear hcz13_4
    try clear hcz15_0
    try clear hcz15_1
    try clear hcz15_2
    try clear hcz15_3
    try clear hcz15_4
    try clear hcz16_0
    try clear hcz16_1
    try clear hcz16_2
    try clear hcz16_3
    try clear hcz16_4
    try clear hcz18_0
    try clear hcz18_1
    try clear hcz18_2
    try clear hcz18_3
    try clear hcz18_4
    try clear hcz19_0
    try clear hcz19_1
    try clear hcz19_2
    try clear hcz19_3
    try clear hcz19_4
    try clear hcz8_0
    try clear hcz8_1
    try clear hcz8_2
    try clear hcz8_3
    try clear hcz8_4
    try clear hcz9_0
    try clear hcz9_1
    try clear hcz9_2
    try clear hcz9_3
    try clear hcz9_4
    try clear hfz13_0
    try clear hfz13_1
    try clear hfz13_2
    try clear hfz13_3
    try clear hfz13_4
    try clear hfz15_0
    try clear hfz15_1
    try clear hfz15_2
    try clear hfz15_3
    try clear hfz15_4
    try clear hfz16_0
    try clear hfz16_1
    try clear hfz16_2
    try clear hfz16_3
    try clear hfz16_4
    try clear hfz18_0
    try clear hfz18_1
    try clear hfz18_2
    try clear hfz18_3
    try clear hfz18_4
    try clear hfz19_0
    try clear hfz19_1
    try clear hfz19_2
    try clear hfz19_3
    try clear hfz19_4
    try clear hfz8_0
    try clear hfz8_1
    try clear hfz8_2
    try clear hfz8_3
    try clear hfz8_4
    try clear hfz9_0
    try clear hfz9_1
    try clear hfz9_2
    try clear hfz9_3
    try clear hfz9_4
    obtain ⟨kq, x28_3, rfl, HA, HJ3, BK330, HB⟩ := hcut
    cases kq with
    | zero => exact absurd HA.out (by simp [dict_right.j0])
    | succ kj3 =>
      have H := HA.out
      clear HA
      simp only [dict_right.j0] at H
      by_cases c21 : x28_3 = true
      · subst c21
        have H1 : (some false) = some r := by rw [if_pos rfl] at H; exact H
        clear H
        have H := H1
        clear H1
        obtain rfl := Option.some.inj H
        go_wp2
        repeat (go_quiet (fail); try go_wp2)
        go_ret
        exact ⟨by first | rfl | (simp [errW_none, errW_some] <;> rfl) | (simp [*, errW_none, errW_some] <;> rfl), by repeat (first | (with_reducible first | exact HB.out | apply below_alloc | apply pw_below_drewN | apply below_drew1 | refine below_set ?_ GE330.out) | exact HB.out)⟩
      · replace c21 := Bool.eq_false_iff.mpr c21
        subst c21
        have H1 : (if a0_2 = 2 then (if a0_3 = 0 then ((dict_Sound.f kj3 l0_4 a1).bind fun t332 => (some t332)) else (some false)) else (if a0_2 = 6 then (if (l0_4.length : Int) = 0 then (some (decide ((wrap64 (a0_3)) < a1))) else (some false)) else (if a0_2 = 7 then (if (l0_4.length : Int) = 0 then (if a0_1 ≥ 0 then (if 0 ≤ a0_1 then (if a0_1 < (l2.length : Int) then (some (decide ((wrap64 (a0_3)) < (((rd_T92 l2 a0_1).f4).length : Int)))) else (none)) else (none)) else (some false)) else (some false)) else (if a0_2 = 3 then (some ((l0_4.length : Int) == 0)) else (if a0_2 = 4 then (some ((l0_4.length : Int) == 0)) else (if a0_2 = 5 then (some ((l0_4.length : Int) == 0)) else (some false))))))) = some r := by rw [if_neg (show ¬ (false = true) by decide)] at H; exact H
        clear H
        have H := H1
        clear H1
        by_cases c22 : a0_2 = 2
        · rw [if_pos c22] at H
          have c22b0 : (a0_2 == 2) = true := beq_iff_eq.mpr c22
          have c22b1 : (a0_2 != 2) = false := bne_eq_false_iff_eq.mpr c22
          clear c22
          by_cases c23 : a0_3 = 0
          · rw [if_pos c23] at H
            have c23b0 : (a0_3 == 0) = true := beq_iff_eq.mpr c23
            have c23b1 : (a0_3 != 0) = false := bne_eq_false_iff_eq.mpr c23
            clear c23
            replace H := Option.bind_eq_some_iff.mp H
            obtain ⟨t332, A240, H⟩ := H
            replace H : (some t332) = some r := H
            have A24 := Aside0.mk A240
            clear A240
            obtain rfl := Option.some.inj H
            have hcz25_0 : wc.cell? ⟨gb330, 0, none⟩ = some (.string a0_0) := (blk_cell BK330.out 0).trans rfl
            have hcz25_1 : wc.cell? ⟨gb330, 1, none⟩ = some (.int .i64 a0_1) := (blk_cell BK330.out 1).trans rfl
            have hcz25_2 : wc.cell? ⟨gb330, 2, none⟩ = some (.int .i64 a0_2) := (blk_cell BK330.out 2).trans rfl
            have hcz25_3 : wc.cell? ⟨gb330, 3, none⟩ = some (.int .u32 a0_3) := (blk_cell BK330.out 3).trans rfl
            have hcz25_4 : wc.cell? ⟨gb330, 4, none⟩ = some (.slice A0_4 l0_4.length c0_4) := (blk_cell BK330.out 4).trans rfl
            have hfz25_0 := blk_frozen BK330.out 0
            have hfz25_1 := blk_frozen BK330.out 1
            have hfz25_2 := blk_frozen BK330.out 2
            have hfz25_3 := blk_frozen BK330.out 3
            have hfz25_4 := blk_frozen BK330.out 4
            go_wp2_with (first | (go_at_call 10; (with_reducible refine (dict_Sound.calls kj3 _ _ l0_4 a1 t332 _ ?side1 ?side2 A24.out).mono ?_); (case side1 => repeat (first | exact (Kd.C_below HR0_4.out HB.out) | (with_reducible refine Kd.C_alloc ?_ _) | (with_reducible refine Kd.C_drewN ?_ _) | (with_reducible refine Kd.C_drew ?_))); (case side2 => exact HC0_4.out); rintro e w26 ⟨rfl, hb⟩; have n0_ := Aside0.mk (blk_below (g := gb330) (o := .cells #[.string a0_0, .int .i64 a0_1, .int .i64 a0_2, .int .u32 a0_3, .slice A0_4 l0_4.length c0_4] 45 (0, 0)) (by (with_reducible repeat (first | refine blk_drewN ?_ _ | refine blk_drew ?_ | refine blk_alloc ?_ _)); exact BK330.out) hb); have n1_ := Aside0.mk (below_step (by repeat (first | (with_reducible first | exact HB.out | apply below_alloc | apply pw_below_drewN | apply below_drew1 | refine below_set ?_ GE330.out) | exact HB.out)) hb); clear BK330; clear HB; have BK330 := n0_; have HB := n1_; clear n0_ n1_; (try clear hb); (try clear hb2); (try clear hk); (try clear hi)))
            repeat (go_quiet (first | (go_at_call 10; (with_reducible refine (dict_Sound.calls kj3 _ _ l0_4 a1 t332 _ ?side1 ?side2 A24.out).mono ?_); (case side1 => repeat (first | exact (Kd.C_below HR0_4.out HB.out) | (with_reducible refine Kd.C_alloc ?_ _) | (with_reducible refine Kd.C_drewN ?_ _) | (with_reducible refine Kd.C_drew ?_))); (case side2 => exact HC0_4.out); rintro e w26 ⟨rfl, hb⟩; have n0_ := Aside0.mk (blk_below (g := gb330) (o := .cells #[.string a0_0, .int .i64 a0_1, .int .i64 a0_2, .int .u32 a0_3, .slice A0_4 l0_4.length c0_4] 45 (0, 0)) (by (with_reducible repeat (first | refine blk_drewN ?_ _ | refine blk_drew ?_ | refine blk_alloc ?_ _)); exact BK330.out) hb); have n1_ := Aside0.mk (below_step (by repeat (first | (with_reducible first | exact HB.out | apply below_alloc | apply pw_below_drewN | apply below_drew1 | refine below_set ?_ GE330.out) | exact HB.out)) hb); clear BK330; clear HB; have BK330 := n0_; have HB := n1_; clear n0_ n1_; (try clear hb); (try clear hb2); (try clear hk); (try clear hi))); try go_wp2_with (first | (go_at_call 10; (with_reducible refine (dict_Sound.calls kj3 _ _ l0_4 a1 t332 _ ?side1 ?side2 A24.out).mono ?_); (case side1 => repeat (first | exact (Kd.C_below HR0_4.out HB.out) | (with_reducible refine Kd.C_alloc ?_ _) | (with_reducible refine Kd.C_drewN ?_ _) | (with_reducible refine Kd.C_drew ?_))); (case side2 => exact HC0_4.out); rintro e w26 ⟨rfl, hb⟩; have n0_ := Aside0.mk (blk_below (g := gb330) (o := .cells #[.string a0_0, .int .i64 a0_1, .int .i64 a0_2, .int .u32 a0_3, .slice A0_4 l0_4.length c0_4] 45 (0, 0)) (by (with_reducible repeat (first | refine blk_drewN ?_ _ | refine blk_drew ?_ | refine blk_alloc ?_ _)); exact BK330.out) hb); have n1_ := Aside0.mk (below_step (by repeat (first | (with_reducible first | exact HB.out | apply below_alloc | apply pw_below_drewN | apply below_drew1 | refine below_set ?_ GE330.out) | exact HB.out)) hb); clear BK330; clear HB; have BK330 := n0_; have HB := n1_; clear n0_ n1_; (try clear hb); (try clear hb2); (try clear hk); (try clear hi))))
            go_ret
            exact ⟨by first | rfl | (simp [errW_none, errW_some] <;> rfl) | (simp [*, errW_none, errW_some] <;> rfl), by repeat (first | (with_reducible first | exact HB.out | apply below_alloc | apply pw_below_drewN | apply below_drew1 | refine below_set ?_ GE330.out) | exact HB.out)⟩
          · rw [if_neg c23] at H
            have c23b0 : (a0_3 == 0) = false := beq_eq_false_iff_ne.mpr c23
            have c23b1 : (a0_3 != 0) = true := bne_iff_ne.mpr c23
            obtain rfl := Option.some.inj H
            have hcz27_0 : wc.cell? ⟨gb330, 0, none⟩ = some (.string a0_0) := (blk_cell BK330.out 0).trans rfl
            have hcz27_1 : wc.cell? ⟨gb330, 1, none⟩ = some (.int .i64 a0_1) := (blk_cell BK330.out 1).trans rfl
            have hcz27_2 : wc.cell? ⟨gb330, 2, none⟩ = some (.int .i64 a0_2) := (blk_cell BK330.out 2).trans rfl
            have hcz27_3 : wc.cell? ⟨gb330, 3, none⟩ = some (.int .u32 a0_3) := (blk_cell BK330.out 3).trans rfl
            have hcz27_4 : wc.cell? ⟨gb330, 4, none⟩ = some (.slice A0_4 l0_4.length c0_4) := (blk_cell BK330.out 4).trans rfl
            have hfz27_0 := blk_frozen BK330.out 0
            have hfz27_1 := blk_frozen BK330.out 1
            have hfz27_2 := blk_frozen BK330.out 2
            have hfz27_3 := blk_frozen BK330.out 3
            have hfz27_4 := blk_frozen BK330.out 4
            go_wp2
            repeat (go_quiet (fail); try go_wp2)
            go_ret
            exact ⟨by first | rfl | (simp [errW_none, errW_some] <;> rfl) | (simp [*, errW_none, errW_some] <;> rfl), by repeat (first | (with_reducible first | exact HB.out | apply below_alloc | apply pw_below_drewN | apply below_drew1 | refine below_set ?_ GE330.out) | exact HB.out)⟩
        · rw [if_neg c22] at H
          have c22b0 : (a0_2 == 2) = false := beq_eq_false_iff_ne.mpr c22
          have c22b1 : (a0_2 != 2) = true := bne_iff_ne.mpr c22
          by_cases c28 : a0_2 = 6
          · rw [if_pos c28] at H
            have c28b0 : (a0_2 == 6) = true := beq_iff_eq.mpr c28
            have c28b1 : (a0_2 != 6) = false := bne_eq_false_iff_eq.mpr c28
            clear c28
            by_cases c29 : (l0_4.length : Int) = 0
            · rw [if_pos c29] at H
              have c29b0 : ((l0_4.length : Int) == 0) = true := beq_iff_eq.mpr c29
              have c29b1 : ((l0_4.length : Int) != 0) = false := bne_eq_false_iff_eq.mpr c29
              clear c29
              obtain rfl := Option.some.inj H
              have hcz30_0 : wc.cell? ⟨gb330, 0, none⟩ = some (.string a0_0) := (blk_cell BK330.out 0).trans rfl
              have hcz30_1 : wc.cell? ⟨gb330, 1, none⟩ = some (.int .i64 a0_1) := (blk_cell BK330.out 1).trans rfl
              have hcz30_2 : wc.cell? ⟨gb330, 2, none⟩ = some (.int .i64 a0_2) := (blk_cell BK330.out 2).trans rfl
              have hcz30_3 : wc.cell? ⟨gb330, 3, none⟩ = some (.int .u32 a0_3) := (blk_cell BK330.out 3).trans rfl
              have hcz30_4 : wc.cell? ⟨gb330, 4, none⟩ = some (.slice A0_4 l0_4.length c0_4) := (blk_cell BK330.out 4).trans rfl
              have hfz30_0 := blk_frozen BK330.out 0
              have hfz30_1 := blk_frozen BK330.out 1
              have hfz30_2 := blk_frozen BK330.out 2
              have hfz30_3 := blk_frozen BK330.out 3
              have hfz30_4 := blk_frozen BK330.out 4
              go_wp2
              repeat (go_quiet (fail); try go_wp2)
              go_ret
              exact ⟨by first | rfl | (simp [errW_none, errW_some] <;> rfl) | (simp [*, errW_none, errW_some] <;> rfl), by repeat (first | (with_reducible first | exact HB.out | apply below_alloc | apply pw_below_drewN | apply below_drew1 | refine below_set ?_ GE330.out) | exact HB.out)⟩
            · rw [if_neg c29] at H
              have c29b0 : ((l0_4.length : Int) == 0) = false := beq_eq_false_iff_ne.mpr c29
              have c29b1 : ((l0_4.length : Int) != 0) = true := bne_iff_ne.mpr c29
              have c29b2 : ¬ (l0_4 = []) := fun h_ => c29 (by rw [h_]; rfl)
              obtain rfl := Option.some.inj H
              have hcz31_0 : wc.cell? ⟨gb330, 0, none⟩ = some (.string a0_0) := (blk_cell BK330.out 0).trans rfl
              have hcz31_1 : wc.cell? ⟨gb330, 1, none⟩ = some (.int .i64 a0_1) := (blk_cell BK330.out 1).trans rfl
              have hcz31_2 : wc.cell? ⟨gb330, 2, none⟩ = some (.int .i64 a0_2) := (blk_cell BK330.out 2).trans rfl
              have hcz31_3 : wc.cell? ⟨gb330, 3, none⟩ = some (.int .u32 a0_3) := (blk_cell BK330.out 3).trans rfl
              have hcz31_4 : wc.cell? ⟨gb330, 4, none⟩ = some (.slice A0_4 l0_4.length c0_4) := (blk_cell BK330.out 4).trans rfl
              have hfz31_0 := blk_frozen BK330.out 0
              have hfz31_1 := blk_frozen BK330.out 1
              have hfz31_2 := blk_frozen BK330.out 2
              have hfz31_3 := blk_frozen BK330.out 3
              have hfz31_4 := blk_frozen BK330.out 4
              go_wp2
              repeat (go_quiet (fail); try go_wp2)
              go_ret
              exact ⟨by first | rfl | (simp [errW_none, errW_some] <;> rfl) | (simp [*, errW_none, errW_some] <;> rfl), by repeat (first | (with_reducible first | exact HB.out | apply below_alloc | apply pw_below_drewN | apply below_drew1 | refine below_set ?_ GE330.out) | exact HB.out)⟩
          · rw [if_neg c28] at H
            have c28b0 : (a0_2 == 6) = false := beq_eq_false_iff_ne.mpr c28
            have c28b1 : (a0_2 != 6) = true := bne_iff_ne.mpr c28
            by_cases c32 : a0_2 = 7
            · rw [if_pos c32] at H
              have c32b0 : (a0_2 == 7) = true := beq_iff_eq.mpr c32
              have c32b1 : (a0_2 != 7) = false := bne_eq_false_iff_eq.mpr c32
              clear c32
              by_cases c33 : (l0_4.length : Int) = 0
              · rw [if_pos c33] at H
                have c33b0 : ((l0_4.length : Int) == 0) = true := beq_iff_eq.mpr c33
                have c33b1 : ((l0_4.length : Int) != 0) = false := bne_eq_false_iff_eq.mpr c33
                clear c33
                by_cases c34 : a0_1 ≥ 0
                · rw [if_pos c34] at H
                  have c34b0 : decide (0 ≤ a0_1) = true := decide_eq_true c34
                  clear c34
                  by_cases c35 : 0 ≤ a0_1
                  · rw [if_pos c35] at H
                    have c35b0 : decide (0 ≤ a0_1) = true := decide_eq_true c35
                    clear c35
                    by_cases c36 : a0_1 < (l2.length : Int)
                    · rw [if_pos c36] at H
                      have c36b0 : decide (a0_1 < (l2.length : Int)) = true := decide_eq_true c36
                      clear c36
                      obtain rfl := Option.some.inj H
                      have hcz37_0 : wc.cell? ⟨gb330, 0, none⟩ = some (.string a0_0) := (blk_cell BK330.out 0).trans rfl
                      have hcz37_1 : wc.cell? ⟨gb330, 1, none⟩ = some (.int .i64 a0_1) := (blk_cell BK330.out 1).trans rfl
                      have hcz37_2 : wc.cell? ⟨gb330, 2, none⟩ = some (.int .i64 a0_2) := (blk_cell BK330.out 2).trans rfl
                      have hcz37_3 : wc.cell? ⟨gb330, 3, none⟩ = some (.int .u32 a0_3) := (blk_cell BK330.out 3).trans rfl
                      have hcz37_4 : wc.cell? ⟨gb330, 4, none⟩ = some (.slice A0_4 l0_4.length c0_4) := (blk_cell BK330.out 4).trans rfl
                      have hfz37_0 := blk_frozen BK330.out 0
                      have hfz37_1 := blk_frozen BK330.out 1
                      have hfz37_2 := blk_frozen BK330.out 2
                      have hfz37_3 := blk_frozen BK330.out 3
                      have hfz37_4 := blk_frozen BK330.out 4
                      have p333 : 0 ≤ (a0_1 : Int) := of_decide_eq_true (by first | (with_reducible assumption) | assumption)
                      have q333 : a0_1 < (l2.length : Int) := of_decide_eq_true (by first | (with_reducible assumption) | assumption)
                      obtain ⟨ad333, A333_1, c333_1, A333_3, c333_3, A333_4, c333_4, e333, hx333_0, hx333_1, hx333_2, hx333_3, hx333_4, hl333_1, hi333_1, hl333_3, hi333_3, hl333_4, hi333_4⟩ := at_T92 HR2.out a0_1 p333 q333
                      cases e333
                      replace hx333_0 := (HB.out.cell (World.block_lt_of_cell? w _ hx333_0)).trans hx333_0
                      replace hx333_1 := (HB.out.cell (World.block_lt_of_cell? w _ hx333_1)).trans hx333_1
                      replace hx333_2 := (HB.out.cell (World.block_lt_of_cell? w _ hx333_2)).trans hx333_2
                      replace hx333_3 := (HB.out.cell (World.block_lt_of_cell? w _ hx333_3)).trans hx333_3
                      replace hx333_4 := (HB.out.cell (World.block_lt_of_cell? w _ hx333_4)).trans hx333_4
                      have HR333_1 := Aside0.mk hi333_1
                      have HC333_1 := Aside0.mk hl333_1
                      clear hi333_1 hl333_1
                      have HR333_3 := Aside0.mk hi333_3
                      have HC333_3 := Aside0.mk hl333_3
                      clear hi333_3 hl333_3
                      have HR333_4 := Aside0.mk hi333_4
                      have HC333_4 := Aside0.mk hl333_4
                      clear hi333_4 hl333_4
                      replace p333 := eq_true p333
                      replace q333 := eq_true q333
                      go_wp2
                      repeat (go_quiet (fail); try go_wp2)
                      go_ret
                      exact ⟨by first | rfl | (simp [errW_none, errW_some] <;> rfl) | (simp [*, errW_none, errW_some] <;> rfl), by repeat (first | (with_reducible first | exact HB.out | apply below_alloc | apply pw_below_drewN | apply below_drew1 | refine below_set ?_ GE330.out) | exact HB.out)⟩
                    · rw [if_neg c36] at H
                      exact absurd H (by simp)
                  · rw [if_neg c35] at H
                    exact absurd H (by simp)
                · rw [if_neg c34] at H
                  have c34b0 : decide (0 ≤ a0_1) = false := decide_eq_false c34
                  clear c34
                  obtain rfl := Option.some.inj H
                  have hcz38_0 : wc.cell? ⟨gb330, 0, none⟩ = some (.string a0_0) := (blk_cell BK330.out 0).trans rfl
                  have hcz38_1 : wc.cell? ⟨gb330, 1, none⟩ = some (.int .i64 a0_1) := (blk_cell BK330.out 1).trans rfl
                  have hcz38_2 : wc.cell? ⟨gb330, 2, none⟩ = some (.int .i64 a0_2) := (blk_cell BK330.out 2).trans rfl
                  have hcz38_3 : wc.cell? ⟨gb330, 3, none⟩ = some (.int .u32 a0_3) := (blk_cell BK330.out 3).trans rfl
                  have hcz38_4 : wc.cell? ⟨gb330, 4, none⟩ = some (.slice A0_4 l0_4.length c0_4) := (blk_cell BK330.out 4).trans rfl
                  have hfz38_0 := blk_frozen BK330.out 0
                  have hfz38_1 := blk_frozen BK330.out 1
                  have hfz38_2 := blk_frozen BK330.out 2
                  have hfz38_3 := blk_frozen BK330.out 3
                  have hfz38_4 := blk_frozen BK330.out 4
                  go_wp2
                  repeat (go_quiet (fail); try go_wp2)
                  go_ret
                  exact ⟨by first | rfl | (simp [errW_none, errW_some] <;> rfl) | (simp [*, errW_none, errW_some] <;> rfl), by repeat (first | (with_reducible first | exact HB.out | apply below_alloc | apply pw_below_drewN | apply below_drew1 | refine below_set ?_ GE330.out) | exact HB.out)⟩
              · rw [if_neg c33] at H
                have c33b0 : ((l0_4.length : Int) == 0) = false := beq_eq_false_iff_ne.mpr c33
                have c33b1 : ((l0_4.length : Int) != 0) = true := bne_iff_ne.mpr c33
                have c33b2 : ¬ (l0_4 = []) := fun h_ => c33 (by rw [h_]; rfl)
                obtain rfl := Option.some.inj H
                have hcz39_0 : wc.cell? ⟨gb330, 0, none⟩ = some (.string a0_0) := (blk_cell BK330.out 0).trans rfl
                have hcz39_1 : wc.cell? ⟨gb330, 1, none⟩ = some (.int .i64 a0_1) := (blk_cell BK330.out 1).trans rfl
                have hcz39_2 : wc.cell? ⟨gb330, 2, none⟩ = some (.int .i64 a0_2) := (blk_cell BK330.out 2).trans rfl
                have hcz39_3 : wc.cell? ⟨gb330, 3, none⟩ = some (.int .u32 a0_3) := (blk_cell BK330.out 3).trans rfl
                have hcz39_4 : wc.cell? ⟨gb330, 4, none⟩ = some (.slice A0_4 l0_4.length c0_4) := (blk_cell BK330.out 4).trans rfl
                have hfz39_0 := blk_frozen BK330.out 0
                have hfz39_1 := blk_frozen BK330.out 1
                have hfz39_2 := blk_frozen BK330.out 2
                have hfz39_3 := blk_frozen BK330.out 3
                have hfz39_4 := blk_frozen BK330.out 4
                go_wp2
                repeat (go_quiet (fail); try go_wp2)
                go_ret
                exact ⟨by first | rfl | (simp [errW_none, errW_some] <;> rfl) | (simp [*, errW_none, errW_some] <;> rfl), by repeat (first | (with_reducible first | exact HB.out | apply below_alloc | apply pw_below_drewN | apply below_drew1 | refine below_set ?_ GE330.out) | exact HB.out)⟩
            · rw [if_neg c32] at H
              have c32b0 : (a0_2 == 7) = false := beq_eq_false_iff_ne.mpr c32
              have c32b1 : (a0_2 != 7) = true := bne_iff_ne.mpr c32
              by_cases c40 : a0_2 = 3
              · rw [if_pos c40] at H
                have c40b0 : (a0_2 == 3) = true := beq_iff_eq.mpr c40
                have c40b1 : (a0_2 != 3) = false := bne_eq_false_iff_eq.mpr c40
                clear c40
                obtain rfl := Option.some.inj H
                have hcz41_0 : wc.cell? ⟨gb330, 0, none⟩ = some (.string a0_0) := (blk_cell BK330.out 0).trans rfl
                have hcz41_1 : wc.cell? ⟨gb330, 1, none⟩ = some (.int .i64 a0_1) := (blk_cell BK330.out 1).trans rfl
                have hcz41_2 : wc.cell? ⟨gb330, 2, none⟩ = some (.int .i64 a0_2) := (blk_cell BK330.out 2).trans rfl
                have hcz41_3 : wc.cell? ⟨gb330, 3, none⟩ = some (.int .u32 a0_3) := (blk_cell BK330.out 3).trans rfl
                have hcz41_4 : wc.cell? ⟨gb330, 4, none⟩ = some (.slice A0_4 l0_4.length c0_4) := (blk_cell BK330.out 4).trans rfl
                have hfz41_0 := blk_frozen BK330.out 0
                have hfz41_1 := blk_frozen BK330.out 1
                have hfz41_2 := blk_frozen BK330.out 2
                have hfz41_3 := blk_frozen BK330.out 3
                have hfz41_4 := blk_frozen BK330.out 4
                go_wp2
                repeat (go_quiet (fail); try go_wp2)
                go_ret
                exact ⟨by first | rfl | (simp [errW_none, errW_some] <;> rfl) | (simp [*, errW_none, errW_some] <;> rfl), by repeat (first | (with_reducible first | exact HB.out | apply below_alloc | apply pw_below_drewN | apply below_drew1 | refine below_set ?_ GE330.out) | exact HB.out)⟩
              · rw [if_neg c40] at H
                have c40b0 : (a0_2 == 3) = false := beq_eq_false_iff_ne.mpr c40
                have c40b1 : (a0_2 != 3) = true := bne_iff_ne.mpr c40
                by_cases c42 : a0_2 = 4
                · rw [if_pos c42] at H
                  have c42b0 : (a0_2 == 4) = true := beq_iff_eq.mpr c42
                  have c42b1 : (a0_2 != 4) = false := bne_eq_false_iff_eq.mpr c42
                  clear c42
                  obtain rfl := Option.some.inj H
                  have hcz43_0 : wc.cell? ⟨gb330, 0, none⟩ = some (.string a0_0) := (blk_cell BK330.out 0).trans rfl
                  have hcz43_1 : wc.cell? ⟨gb330, 1, none⟩ = some (.int .i64 a0_1) := (blk_cell BK330.out 1).trans rfl
                  have hcz43_2 : wc.cell? ⟨gb330, 2, none⟩ = some (.int .i64 a0_2) := (blk_cell BK330.out 2).trans rfl
                  have hcz43_3 : wc.cell? ⟨gb330, 3, none⟩ = some (.int .u32 a0_3) := (blk_cell BK330.out 3).trans rfl
                  have hcz43_4 : wc.cell? ⟨gb330, 4, none⟩ = some (.slice A0_4 l0_4.length c0_4) := (blk_cell BK330.out 4).trans rfl
                  have hfz43_0 := blk_frozen BK330.out 0
                  have hfz43_1 := blk_frozen BK330.out 1
                  have hfz43_2 := blk_frozen BK330.out 2
                  have hfz43_3 := blk_frozen BK330.out 3
                  have hfz43_4 := blk_frozen BK330.out 4
                  go_wp2
                  repeat (go_quiet (fail); try go_wp2)
                  go_ret
                  exact ⟨by first | rfl | (simp [errW_none, errW_some] <;> rfl) | (simp [*, errW_none, errW_some] <;> rfl), by repeat (first | (with_reducible first | exact HB.out | apply below_alloc | apply pw_below_drewN | apply below_drew1 | refine below_set ?_ GE330.out) | exact HB.out)⟩
                · rw [if_neg c42] at H
                  have c42b0 : (a0_2 == 4) = false := beq_eq_false_iff_ne.mpr c42
                  have c42b1 : (a0_2 != 4) = true := bne_iff_ne.mpr c42
                  by_cases c44 : a0_2 = 5
                  · rw [if_pos c44] at H
                    have c44b0 : (a0_2 == 5) = true := beq_iff_eq.mpr c44
                    have c44b1 : (a0_2 != 5) = false := bne_eq_false_iff_eq.mpr c44
                    clear c44
                    obtain rfl := Option.some.inj H
                    have hcz45_0 : wc.cell? ⟨gb330, 0, none⟩ = some (.string a0_0) := (blk_cell BK330.out 0).trans rfl
                    have hcz45_1 : wc.cell? ⟨gb330, 1, none⟩ = some (.int .i64 a0_1) := (blk_cell BK330.out 1).trans rfl
                    have hcz45_2 : wc.cell? ⟨gb330, 2, none⟩ = some (.int .i64 a0_2) := (blk_cell BK330.out 2).trans rfl
                    have hcz45_3 : wc.cell? ⟨gb330, 3, none⟩ = some (.int .u32 a0_3) := (blk_cell BK330.out 3).trans rfl
                    have hcz45_4 : wc.cell? ⟨gb330, 4, none⟩ = some (.slice A0_4 l0_4.length c0_4) := (blk_cell BK330.out 4).trans rfl
                    have hfz45_0 := blk_frozen BK330.out 0
                    have hfz45_1 := blk_frozen BK330.out 1
                    have hfz45_2 := blk_frozen BK330.out 2
                    have hfz45_3 := blk_frozen BK330.out 3
                    have hfz45_4 := blk_frozen BK330.out 4
                    go_wp2
                    repeat (go_quiet (fail); try go_wp2)
                    go_ret
                    exact ⟨by first | rfl | (simp [errW_none, errW_some] <;> rfl) | (simp [*, errW_none, errW_some] <;> rfl), by repeat (first | (with_reducible first | exact HB.out | apply below_alloc | apply pw_below_drewN | apply below_drew1 | refine below_set ?_ GE330.out) | exact HB.out)⟩
                  · rw [if_neg c44] at H
                    have c44b0 : (a0_2 == 5) = false := beq_eq_false_iff_ne.mpr c44
                    have c44b1 : (a0_2 != 5) = true := bne_iff_ne.mpr c44
                    obtain rfl := Option.some.inj H
                    have hcz46_0 : wc.cell? ⟨gb330, 0, none⟩ = some (.string a0_0) := (blk_cell BK330.out 0).trans rfl
                    have hcz46_1 : wc.cell? ⟨gb330, 1, none⟩ = some (.int .i64 a0_1) := (blk_cell BK330.out 1).trans rfl
                    have hcz46_2 : wc.cell? ⟨gb330, 2, none⟩ = some (.int .i64 a0_2) := (blk_cell BK330.out 2).trans rfl
                    have hcz46_3 : wc.cell? ⟨gb330, 3, none⟩ = some (.int .u32 a0_3) := (blk_cell BK330.out 3).trans rfl
                    have hcz46_4 : wc.cell? ⟨gb330, 4, none⟩ = some (.slice A0_4 l0_4.length c0_4) := (blk_cell BK330.out 4).trans rfl
                    have hfz46_0 := blk_frozen BK330.out 0
                    have hfz46_1 := blk_frozen BK330.out 1
                    have hfz46_2 := blk_frozen BK330.out 2
                    have hfz46_3 := blk_frozen BK330.out 3
                    have hfz46_4 := blk_frozen BK330.out 4
                    go_wp2
                    repeat (go_quiet (fail); try go_wp2)
                    go_ret
                    exact ⟨by first | rfl | (simp [errW_none, errW_some] <;> rfl) | (simp [*, errW_none, errW_some] <;> rfl), by repeat (first | (with_reducible first | exact HB.out | apply below_alloc | apply pw_below_drewN | apply below_drew1 | refine below_set ?_ GE330.out) | exact HB.out)⟩
end Go.Proofs.Ytpalbpakeokimaa.PK
