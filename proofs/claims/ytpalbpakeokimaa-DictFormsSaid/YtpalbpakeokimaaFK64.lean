/- tinder: a part of the proof, joined and pruned by wip/tools/prune.py out of: K64 -/
import Derived.Test.YtpalbpakeokimaaFK0
import Derived.Test.YtpalbpakeokimaaFK42
import Derived.Test.YtpalbpakeokimaaFK46
namespace Go.Proofs.Ytpalbpakeokimaa.PK
open Go.RowKit Go.Proofs.YtpalbpakeokimaaW.PrintWords Go.Proofs.YtpalbpakeokimaaW.PrintLast Go.Proofs.YtpalbpakeokimaaW.PrintMore
attribute [local go_sem] max2_int min2_int max_two min_two max_three min_three max_four min_four
set_option linter.unusedVariables false
set_option linter.unusedSimpArgs false
def tinderref09_wordFormed.j0 : Nat → Int → List (S92) → Bool → ByteArray → Int → Int → Int → List (S57) → Option (Bool)
  | 0, _, _, _, _, _, _, _, _ => none
  | k + 1, x1, x2, x37, x192000, x192001, x192002, x192003, x192004 => if x37 = true then (some false) else (if x192002 = 2 then (if x192003 = 0 then ((tinderref09_Sound.f k x192004 x1).bind fun t193 => (some t193)) else (some false)) else (if x192002 = 6 then (if (wrap64 (x192003)) ≥ x1 then (some false) else (some ((x192004.length : Int) == 0))) else (if x192002 = 7 then (if x192001 < 0 then (some false) else (if 0 ≤ x192001 then (if x192001 < (x2.length : Int) then (if (wrap64 (x192003)) ≥ (((rd_T92 x2 x192001).f4).length : Int) then (some false) else (some ((x192004.length : Int) == 0))) else (none)) else (none))) else (some ((x192004.length : Int) == 0)))))
def tinderref09_wordFormed.f (k : Nat) (a0_0 : ByteArray) (a0_1 : Int) (a0_2 : Int) (a0_3 : Int) (l0_4 : List (S57)) (a1 : Int) (l2 : List (S92)) : Option (Bool) := if a0_2 < 2 then (tinderref09_wordFormed.j0 k a1 l2 true a0_0 a0_1 a0_2 a0_3 l0_4) else (if a0_2 > 7 then (tinderref09_wordFormed.j0 k a1 l2 true a0_0 a0_1 a0_2 a0_3 l0_4) else (if a0_0.toList = ([] : List UInt8) then (if a0_1 < (-1) then (tinderref09_wordFormed.j0 k a1 l2 true a0_0 a0_1 a0_2 a0_3 l0_4) else (tinderref09_wordFormed.j0 k a1 l2 (decide (a0_1 ≥ (l2.length : Int))) a0_0 a0_1 a0_2 a0_3 l0_4)) else ((tinderref09_Named.f k a0_0).bind fun t192 => (if t192 = true then (if a0_1 < (-1) then (tinderref09_wordFormed.j0 k a1 l2 true a0_0 a0_1 a0_2 a0_3 l0_4) else (tinderref09_wordFormed.j0 k a1 l2 (decide (a0_1 ≥ (l2.length : Int))) a0_0 a0_1 a0_2 a0_3 l0_4)) else (tinderref09_wordFormed.j0 k a1 l2 true a0_0 a0_1 a0_2 a0_3 l0_4)))))
theorem tinderref09_wordFormed.mono_l : ∀ k, (∀ y0 y1 y2 y3 y4 y5 y6 y7, LeO (tinderref09_wordFormed.j0 k y0 y1 y2 y3 y4 y5 y6 y7) (tinderref09_wordFormed.j0 (k + 1) y0 y1 y2 y3 y4 y5 y6 y7))
  | 0 => fun _ _ _ _ _ _ _ _ r h => by simp [tinderref09_wordFormed.j0] at h
  | k + 1 => by
    have ih0 := tinderref09_wordFormed.mono_l k
    · intro y0 y1 y2 y3 y4 y5 y6 y7
      unfold tinderref09_wordFormed.j0
      repeat' first
      | (with_reducible exact ih0 _ _ _ _ _ _ _ _)
      | (with_reducible exact tinderref09_Named.mono _ _)
      | (with_reducible exact tinderref09_Sound.mono _ _ _)
      | (with_reducible exact LeO.refl _)
      | (with_reducible exact LeO.none _)
      | (with_reducible refine LeO.ite ?_ ?_)
      | (with_reducible refine LeO.bind ?_ (fun _ => ?_))
      | exact ih0 _ _ _ _ _ _ _ _
      | exact tinderref09_Named.mono _ _
      | exact tinderref09_Sound.mono _ _ _
      | exact LeO.none _
      | refine LeO.ite ?_ ?_
      | refine LeO.bind ?_ (fun _ => ?_)
theorem tinderref09_wordFormed.mono : ∀ a0 a1 a2 a3 a4 a5 a6 k, LeO (tinderref09_wordFormed.f k a0 a1 a2 a3 a4 a5 a6) (tinderref09_wordFormed.f (k + 1) a0 a1 a2 a3 a4 a5 a6) := by
  intro a0 a1 a2 a3 a4 a5 a6 k
  have ih0 := tinderref09_wordFormed.mono_l k
  unfold tinderref09_wordFormed.f
  repeat' first
      | (with_reducible exact ih0 _ _ _ _ _ _ _ _)
      | (with_reducible exact tinderref09_Named.mono _ _)
      | (with_reducible exact tinderref09_Sound.mono _ _ _)
      | (with_reducible exact LeO.refl _)
      | (with_reducible exact LeO.none _)
      | (with_reducible refine LeO.ite ?_ ?_)
      | (with_reducible refine LeO.bind ?_ (fun _ => ?_))
      | exact ih0 _ _ _ _ _ _ _ _
      | exact tinderref09_Named.mono _ _
      | exact tinderref09_Sound.mono _ _ _
      | exact LeO.none _
      | refine LeO.ite ?_ ?_
      | refine LeO.bind ?_ (fun _ => ?_)
set_option maxHeartbeats 8000000 in
set_option maxRecDepth 100000 in
theorem tinderref09_wordFormed.calls (k : Nat) (a0_0 : ByteArray) (a0_1 : Int) (a0_2 : Int) (a0_3 : Int) (A0_4 : Option Addr) (c0_4 : Nat) (l0_4 : List (S57)) (a1 : Int) (A2 : Option Addr) (c2 : Nat) (l2 : List (S92)) (r : Bool) (w : World) (hr0_4 : Kd.C k57 w A0_4 l0_4.length l0_4) (hc0_4 : l0_4.length ≤ c0_4) (hr2 : Kd.C k92 w A2 l2.length l2) (hc2 : l2.length ≤ c2) (h : tinderref09_wordFormed.f k a0_0 a0_1 a0_2 a0_3 l0_4 a1 l2 = some r) :
    Calls Try.prog 46 #[.agg #[.string a0_0, .int .i64 a0_1, .int .i64 a0_2, .int .u32 a0_3, .slice A0_4 l0_4.length c0_4], .int .i64 a1, .slice A2 l2.length c2] w fun e w' => e = .returned (.bool r) ∧ Below w.heap.size w w' := by
  have hu45 := Try.underlying45
  have HR0_4 := Aside0.mk hr0_4
  have HC0_4 := Aside0.mk hc0_4
  clear hr0_4 hc0_4
  have HR2 := Aside0.mk hr2
  have HC2 := Aside0.mk hc2
  clear hr2 hc2
  have HB := Aside0.mk (Below.refl w.heap.size w)
  have H : (if a0_2 < 2 then (tinderref09_wordFormed.j0 k a1 l2 true a0_0 a0_1 a0_2 a0_3 l0_4) else (if a0_2 > 7 then (tinderref09_wordFormed.j0 k a1 l2 true a0_0 a0_1 a0_2 a0_3 l0_4) else (if a0_0.toList = ([] : List UInt8) then (if a0_1 < (-1) then (tinderref09_wordFormed.j0 k a1 l2 true a0_0 a0_1 a0_2 a0_3 l0_4) else (tinderref09_wordFormed.j0 k a1 l2 (decide (a0_1 ≥ (l2.length : Int))) a0_0 a0_1 a0_2 a0_3 l0_4)) else ((tinderref09_Named.f k a0_0).bind fun t192 => (if t192 = true then (if a0_1 < (-1) then (tinderref09_wordFormed.j0 k a1 l2 true a0_0 a0_1 a0_2 a0_3 l0_4) else (tinderref09_wordFormed.j0 k a1 l2 (decide (a0_1 ≥ (l2.length : Int))) a0_0 a0_1 a0_2 a0_3 l0_4)) else (tinderref09_wordFormed.j0 k a1 l2 true a0_0 a0_1 a0_2 a0_3 l0_4)))))) = some r := h
  clear h
  have HC4 := Aside0.mk H
  clear H
  go_enter Try.func46, Try.ntmps46
  go_upto_region 1 with (first | ((with_reducible refine gate_dst (N := 3) rfl ?_); (try (refine gate_guard (by rfl) ?_; dsimp only)); refine box_event ?hg (N := 3) ?hd (cs := #[.string a0_0, .int .i64 a0_1, .int .i64 a0_2, .int .u32 a0_3, .slice A0_4 l0_4.length c0_4]) (t := 45) ?hr ?_; (case hd => rfl); (case hg => rfl); (case hr => first | (go_simp; done) | (go_simp; rfl)); intro gb191 hg w5 hbox hb; have n0_ := Aside0.mk (below_step (by repeat (first | (with_reducible first | exact HB.out | apply below_alloc | apply pw_below_drewN | apply below_drew1) | exact HB.out)) hb); have n1_ := Aside0.mk (hbox); have n2_ := Aside0.mk ((by rw [hg]; exact (below_size (by repeat (first | (with_reducible first | exact HB.out | apply below_alloc | apply pw_below_drewN | apply below_drew1) | exact HB.out))) : w.heap.size ≤ gb191)); have n3_ := Aside0.mk ((by rw [hg]; exact (below_size (by repeat (first | (with_reducible first | exact HB.out | apply below_alloc | apply pw_below_drewN | apply below_drew1) | exact HB.out))) : w.heap.size ≤ gb191)); clear HB; have HB := n0_; have BK191 := n1_; have GW191 := n2_; have GE191 := n3_; clear n0_ n1_ n2_ n3_; clear hb hbox hg))
  repeat (go_quiet (first | ((with_reducible refine gate_dst (N := 3) rfl ?_); (try (refine gate_guard (by rfl) ?_; dsimp only)); refine box_event ?hg (N := 3) ?hd (cs := #[.string a0_0, .int .i64 a0_1, .int .i64 a0_2, .int .u32 a0_3, .slice A0_4 l0_4.length c0_4]) (t := 45) ?hr ?_; (case hd => rfl); (case hg => rfl); (case hr => first | (go_simp; done) | (go_simp; rfl)); intro gb191 hg w5 hbox hb; have n0_ := Aside0.mk (below_step (by repeat (first | (with_reducible first | exact HB.out | apply below_alloc | apply pw_below_drewN | apply below_drew1) | exact HB.out)) hb); have n1_ := Aside0.mk (hbox); have n2_ := Aside0.mk ((by rw [hg]; exact (below_size (by repeat (first | (with_reducible first | exact HB.out | apply below_alloc | apply pw_below_drewN | apply below_drew1) | exact HB.out))) : w.heap.size ≤ gb191)); have n3_ := Aside0.mk ((by rw [hg]; exact (below_size (by repeat (first | (with_reducible first | exact HB.out | apply below_alloc | apply pw_below_drewN | apply below_drew1) | exact HB.out))) : w.heap.size ≤ gb191)); clear HB; have HB := n0_; have BK191 := n1_; have GW191 := n2_; have GE191 := n3_; clear n0_ n1_ n2_ n3_; clear hb hbox hg)); go_upto_region 1 with (first | ((with_reducible refine gate_dst (N := 3) rfl ?_); (try (refine gate_guard (by rfl) ?_; dsimp only)); refine box_event ?hg (N := 3) ?hd (cs := #[.string a0_0, .int .i64 a0_1, .int .i64 a0_2, .int .u32 a0_3, .slice A0_4 l0_4.length c0_4]) (t := 45) ?hr ?_; (case hd => rfl); (case hg => rfl); (case hr => first | (go_simp; done) | (go_simp; rfl)); intro gb191 hg w5 hbox hb; have n0_ := Aside0.mk (below_step (by repeat (first | (with_reducible first | exact HB.out | apply below_alloc | apply pw_below_drewN | apply below_drew1) | exact HB.out)) hb); have n1_ := Aside0.mk (hbox); have n2_ := Aside0.mk ((by rw [hg]; exact (below_size (by repeat (first | (with_reducible first | exact HB.out | apply below_alloc | apply pw_below_drewN | apply below_drew1) | exact HB.out))) : w.heap.size ≤ gb191)); have n3_ := Aside0.mk ((by rw [hg]; exact (below_size (by repeat (first | (with_reducible first | exact HB.out | apply below_alloc | apply pw_below_drewN | apply below_drew1) | exact HB.out))) : w.heap.size ≤ gb191)); clear HB; have HB := n0_; have BK191 := n1_; have GW191 := n2_; have GE191 := n3_; clear n0_ n1_ n2_ n3_; clear hb hbox hg)))
  (try simp only [Act.put, List.setIfInBounds_toArray, List.set_cons_zero, List.set_cons_succ])
  go_cut [37] (fun v37 wc => ∃ (kq : Nat) (x37_3 : Bool), v37 = .bool x37_3 ∧ Aside0 (tinderref09_wordFormed.j0 kq a1 l2 x37_3 a0_0 a0_1 a0_2 a0_3 l0_4 = some r) ∧ Aside0 (kq ≤ k) ∧ Aside0 (wc.heap[gb191]? = some (.cells #[.string a0_0, .int .i64 a0_1, .int .i64 a0_2, .int .u32 a0_3, (.slice A0_4 l0_4.length c0_4)] 45 (0, 0))) ∧ Aside0 (Below w.heap.size w wc))
  case first =>
    have H := HC4.out
    clear HC4
    by_cases c6 : a0_2 < 2
    · rw [if_pos c6] at H
      have c6b0 : decide (a0_2 < 2) = true := decide_eq_true c6
      clear c6
      (first | rw [c6b0] | (simp only [i64_w, i32_w]; rw [c6b0]) | skip)
      have H' := Aside0.mk H
      clear H
      have hcz7_0 : w5.cell? ⟨gb191, 0, none⟩ = some (.string a0_0) := (blk_cell BK191.out 0).trans rfl
      have hcz7_1 : w5.cell? ⟨gb191, 1, none⟩ = some (.int .i64 a0_1) := (blk_cell BK191.out 1).trans rfl
      have hcz7_2 : w5.cell? ⟨gb191, 2, none⟩ = some (.int .i64 a0_2) := (blk_cell BK191.out 2).trans rfl
      have hcz7_3 : w5.cell? ⟨gb191, 3, none⟩ = some (.int .u32 a0_3) := (blk_cell BK191.out 3).trans rfl
      have hcz7_4 : w5.cell? ⟨gb191, 4, none⟩ = some (.slice A0_4 l0_4.length c0_4) := (blk_cell BK191.out 4).trans rfl
      have hfz7_0 := blk_frozen BK191.out 0
      have hfz7_1 := blk_frozen BK191.out 1
      have hfz7_2 := blk_frozen BK191.out 2
      have hfz7_3 := blk_frozen BK191.out 3
      have hfz7_4 := blk_frozen BK191.out 4
      go_wp2
      repeat (go_quiet (fail); try go_wp2)
      go_meet
      case rel => exact ⟨_, (true), (by first | rfl | (simp; done) | (simp [*]; done)), H', ⟨by first | omega | exact Nat.le_refl _⟩, ⟨by (with_reducible repeat (first | refine blk_drewN ?_ _ | refine blk_drew ?_ | refine blk_alloc ?_ _)); exact BK191.out⟩, ⟨by repeat (first | (with_reducible first | exact HB.out | apply below_alloc | apply pw_below_drewN | apply below_drew1 | refine below_set ?_ GE191.out) | exact HB.out)⟩⟩
    · rw [if_neg c6] at H
      have c6b0 : decide (a0_2 < 2) = false := decide_eq_false c6
      clear c6
      (first | rw [c6b0] | (simp only [i64_w, i32_w]; rw [c6b0]) | skip)
      by_cases c8 : a0_2 > 7
      · rw [if_pos c8] at H
        have c8b0 : decide (7 < a0_2) = true := decide_eq_true c8
        clear c8
        have H' := Aside0.mk H
        clear H
        have hcz9_0 : w5.cell? ⟨gb191, 0, none⟩ = some (.string a0_0) := (blk_cell BK191.out 0).trans rfl
        have hcz9_1 : w5.cell? ⟨gb191, 1, none⟩ = some (.int .i64 a0_1) := (blk_cell BK191.out 1).trans rfl
        have hcz9_2 : w5.cell? ⟨gb191, 2, none⟩ = some (.int .i64 a0_2) := (blk_cell BK191.out 2).trans rfl
        have hcz9_3 : w5.cell? ⟨gb191, 3, none⟩ = some (.int .u32 a0_3) := (blk_cell BK191.out 3).trans rfl
        have hcz9_4 : w5.cell? ⟨gb191, 4, none⟩ = some (.slice A0_4 l0_4.length c0_4) := (blk_cell BK191.out 4).trans rfl
        have hfz9_0 := blk_frozen BK191.out 0
        have hfz9_1 := blk_frozen BK191.out 1
        have hfz9_2 := blk_frozen BK191.out 2
        have hfz9_3 := blk_frozen BK191.out 3
        have hfz9_4 := blk_frozen BK191.out 4
        go_wp2
        repeat (go_quiet (fail); try go_wp2)
        go_meet
        case rel => exact ⟨_, (true), (by first | rfl | (simp; done) | (simp [*]; done)), H', ⟨by first | omega | exact Nat.le_refl _⟩, ⟨by (with_reducible repeat (first | refine blk_drewN ?_ _ | refine blk_drew ?_ | refine blk_alloc ?_ _)); exact BK191.out⟩, ⟨by repeat (first | (with_reducible first | exact HB.out | apply below_alloc | apply pw_below_drewN | apply below_drew1 | refine below_set ?_ GE191.out) | exact HB.out)⟩⟩
      · rw [if_neg c8] at H
        have c8b0 : decide (7 < a0_2) = false := decide_eq_false c8
        clear c8
        by_cases c10 : a0_0.toList = ([] : List UInt8)
        · rw [if_pos c10] at H
          have c10b0 : (a0_0.toList == ([] : List UInt8)) = true := beq_iff_eq.mpr c10
          have c10b1 : (a0_0.toList != ([] : List UInt8)) = false := bne_eq_false_iff_eq.mpr c10
          clear c10
          by_cases c11 : a0_1 < (-1)
          · rw [if_pos c11] at H
            have c11b0 : decide (a0_1 < (-1)) = true := decide_eq_true c11
            clear c11
            have H' := Aside0.mk H
            clear H
            have hcz12_0 : w5.cell? ⟨gb191, 0, none⟩ = some (.string a0_0) := (blk_cell BK191.out 0).trans rfl
            have hcz12_1 : w5.cell? ⟨gb191, 1, none⟩ = some (.int .i64 a0_1) := (blk_cell BK191.out 1).trans rfl
            have hcz12_2 : w5.cell? ⟨gb191, 2, none⟩ = some (.int .i64 a0_2) := (blk_cell BK191.out 2).trans rfl
            have hcz12_3 : w5.cell? ⟨gb191, 3, none⟩ = some (.int .u32 a0_3) := (blk_cell BK191.out 3).trans rfl
            have hcz12_4 : w5.cell? ⟨gb191, 4, none⟩ = some (.slice A0_4 l0_4.length c0_4) := (blk_cell BK191.out 4).trans rfl
            have hfz12_0 := blk_frozen BK191.out 0
            have hfz12_1 := blk_frozen BK191.out 1
            have hfz12_2 := blk_frozen BK191.out 2
            have hfz12_3 := blk_frozen BK191.out 3
            have hfz12_4 := blk_frozen BK191.out 4
            go_wp2
            repeat (go_quiet (fail); try go_wp2)
            go_meet
            case rel => exact ⟨_, (true), (by first | rfl | (simp; done) | (simp [*]; done)), H', ⟨by first | omega | exact Nat.le_refl _⟩, ⟨by (with_reducible repeat (first | refine blk_drewN ?_ _ | refine blk_drew ?_ | refine blk_alloc ?_ _)); exact BK191.out⟩, ⟨by repeat (first | (with_reducible first | exact HB.out | apply below_alloc | apply pw_below_drewN | apply below_drew1 | refine below_set ?_ GE191.out) | exact HB.out)⟩⟩
          · rw [if_neg c11] at H
            have c11b0 : decide (a0_1 < (-1)) = false := decide_eq_false c11
            clear c11
            have H' := Aside0.mk H
            clear H
            have hcz13_0 : w5.cell? ⟨gb191, 0, none⟩ = some (.string a0_0) := (blk_cell BK191.out 0).trans rfl
            have hcz13_1 : w5.cell? ⟨gb191, 1, none⟩ = some (.int .i64 a0_1) := (blk_cell BK191.out 1).trans rfl
            have hcz13_2 : w5.cell? ⟨gb191, 2, none⟩ = some (.int .i64 a0_2) := (blk_cell BK191.out 2).trans rfl
            have hcz13_3 : w5.cell? ⟨gb191, 3, none⟩ = some (.int .u32 a0_3) := (blk_cell BK191.out 3).trans rfl
            have hcz13_4 : w5.cell? ⟨gb191, 4, none⟩ = some (.slice A0_4 l0_4.length c0_4) := (blk_cell BK191.out 4).trans rfl
            have hfz13_0 := blk_frozen BK191.out 0
            have hfz13_1 := blk_frozen BK191.out 1
            have hfz13_2 := blk_frozen BK191.out 2
            have hfz13_3 := blk_frozen BK191.out 3
            have hfz13_4 := blk_frozen BK191.out 4
            go_wp2
            repeat (go_quiet (fail); try go_wp2)
            go_meet
            case rel => exact ⟨_, (decide (a0_1 ≥ (l2.length : Int))), (by first | rfl | (simp; done) | (simp [*]; done)), H', ⟨by first | omega | exact Nat.le_refl _⟩, ⟨by (with_reducible repeat (first | refine blk_drewN ?_ _ | refine blk_drew ?_ | refine blk_alloc ?_ _)); exact BK191.out⟩, ⟨by repeat (first | (with_reducible first | exact HB.out | apply below_alloc | apply pw_below_drewN | apply below_drew1 | refine below_set ?_ GE191.out) | exact HB.out)⟩⟩
        · rw [if_neg c10] at H
          have c10b0 : (a0_0.toList == ([] : List UInt8)) = false := beq_eq_false_iff_ne.mpr c10
          have c10b1 : (a0_0.toList != ([] : List UInt8)) = true := bne_iff_ne.mpr c10
          replace H := Option.bind_eq_some_iff.mp H
          obtain ⟨t192, A140, H⟩ := H
          replace H : (if t192 = true then (if a0_1 < (-1) then (tinderref09_wordFormed.j0 k a1 l2 true a0_0 a0_1 a0_2 a0_3 l0_4) else (tinderref09_wordFormed.j0 k a1 l2 (decide (a0_1 ≥ (l2.length : Int))) a0_0 a0_1 a0_2 a0_3 l0_4)) else (tinderref09_wordFormed.j0 k a1 l2 true a0_0 a0_1 a0_2 a0_3 l0_4)) = some r := H
          have A14 := Aside0.mk A140
          clear A140
          by_cases c15 : t192 = true
          · subst c15
            have H1 : (if a0_1 < (-1) then (tinderref09_wordFormed.j0 k a1 l2 true a0_0 a0_1 a0_2 a0_3 l0_4) else (tinderref09_wordFormed.j0 k a1 l2 (decide (a0_1 ≥ (l2.length : Int))) a0_0 a0_1 a0_2 a0_3 l0_4)) = some r := by rw [if_pos rfl] at H; exact H
            clear H
            have H := H1
            clear H1
            by_cases c16 : a0_1 < (-1)
            · rw [if_pos c16] at H
              have c16b0 : decide (a0_1 < (-1)) = true := decide_eq_true c16
              clear c16
              have H' := Aside0.mk H
              clear H
              have hcz17_0 : w5.cell? ⟨gb191, 0, none⟩ = some (.string a0_0) := (blk_cell BK191.out 0).trans rfl
              have hcz17_1 : w5.cell? ⟨gb191, 1, none⟩ = some (.int .i64 a0_1) := (blk_cell BK191.out 1).trans rfl
              have hcz17_2 : w5.cell? ⟨gb191, 2, none⟩ = some (.int .i64 a0_2) := (blk_cell BK191.out 2).trans rfl
              have hcz17_3 : w5.cell? ⟨gb191, 3, none⟩ = some (.int .u32 a0_3) := (blk_cell BK191.out 3).trans rfl
              have hcz17_4 : w5.cell? ⟨gb191, 4, none⟩ = some (.slice A0_4 l0_4.length c0_4) := (blk_cell BK191.out 4).trans rfl
              have hfz17_0 := blk_frozen BK191.out 0
              have hfz17_1 := blk_frozen BK191.out 1
              have hfz17_2 := blk_frozen BK191.out 2
              have hfz17_3 := blk_frozen BK191.out 3
              have hfz17_4 := blk_frozen BK191.out 4
              go_wp2_with (first | (go_at_call 13; (with_reducible refine (tinderref09_Named.calls k a0_0 true _ A14.out).mono ?_); rintro e w' ⟨rfl, ⟨nd, rfl⟩⟩; (try first | exact ⟨rfl, _, World.drewN_drewN _ _ _⟩ | exact ⟨rfl, _, Eq.trans (World.drewN_drewN _ _ _) (congrArg (World.drewN _) (Nat.add_assoc _ _ _))⟩)))
              repeat (go_quiet (first | (go_at_call 13; (with_reducible refine (tinderref09_Named.calls k a0_0 true _ A14.out).mono ?_); rintro e w' ⟨rfl, ⟨nd, rfl⟩⟩; (try first | exact ⟨rfl, _, World.drewN_drewN _ _ _⟩ | exact ⟨rfl, _, Eq.trans (World.drewN_drewN _ _ _) (congrArg (World.drewN _) (Nat.add_assoc _ _ _))⟩))); try go_wp2_with (first | (go_at_call 13; (with_reducible refine (tinderref09_Named.calls k a0_0 true _ A14.out).mono ?_); rintro e w' ⟨rfl, ⟨nd, rfl⟩⟩; (try first | exact ⟨rfl, _, World.drewN_drewN _ _ _⟩ | exact ⟨rfl, _, Eq.trans (World.drewN_drewN _ _ _) (congrArg (World.drewN _) (Nat.add_assoc _ _ _))⟩))))
              go_meet
              case rel => exact ⟨_, (true), (by first | rfl | (simp; done) | (simp [*]; done)), H', ⟨by first | omega | exact Nat.le_refl _⟩, ⟨by (with_reducible repeat (first | refine blk_drewN ?_ _ | refine blk_drew ?_ | refine blk_alloc ?_ _)); exact BK191.out⟩, ⟨by repeat (first | (with_reducible first | exact HB.out | apply below_alloc | apply pw_below_drewN | apply below_drew1 | refine below_set ?_ GE191.out) | exact HB.out)⟩⟩
            · rw [if_neg c16] at H
              have c16b0 : decide (a0_1 < (-1)) = false := decide_eq_false c16
              clear c16
              have H' := Aside0.mk H
              clear H
              have hcz18_0 : w5.cell? ⟨gb191, 0, none⟩ = some (.string a0_0) := (blk_cell BK191.out 0).trans rfl
              have hcz18_1 : w5.cell? ⟨gb191, 1, none⟩ = some (.int .i64 a0_1) := (blk_cell BK191.out 1).trans rfl
              have hcz18_2 : w5.cell? ⟨gb191, 2, none⟩ = some (.int .i64 a0_2) := (blk_cell BK191.out 2).trans rfl
              have hcz18_3 : w5.cell? ⟨gb191, 3, none⟩ = some (.int .u32 a0_3) := (blk_cell BK191.out 3).trans rfl
              have hcz18_4 : w5.cell? ⟨gb191, 4, none⟩ = some (.slice A0_4 l0_4.length c0_4) := (blk_cell BK191.out 4).trans rfl
              have hfz18_0 := blk_frozen BK191.out 0
              have hfz18_1 := blk_frozen BK191.out 1
              have hfz18_2 := blk_frozen BK191.out 2
              have hfz18_3 := blk_frozen BK191.out 3
              have hfz18_4 := blk_frozen BK191.out 4
              go_wp2_with (first | (go_at_call 13; (with_reducible refine (tinderref09_Named.calls k a0_0 true _ A14.out).mono ?_); rintro e w' ⟨rfl, ⟨nd, rfl⟩⟩; (try first | exact ⟨rfl, _, World.drewN_drewN _ _ _⟩ | exact ⟨rfl, _, Eq.trans (World.drewN_drewN _ _ _) (congrArg (World.drewN _) (Nat.add_assoc _ _ _))⟩)))
              repeat (go_quiet (first | (go_at_call 13; (with_reducible refine (tinderref09_Named.calls k a0_0 true _ A14.out).mono ?_); rintro e w' ⟨rfl, ⟨nd, rfl⟩⟩; (try first | exact ⟨rfl, _, World.drewN_drewN _ _ _⟩ | exact ⟨rfl, _, Eq.trans (World.drewN_drewN _ _ _) (congrArg (World.drewN _) (Nat.add_assoc _ _ _))⟩))); try go_wp2_with (first | (go_at_call 13; (with_reducible refine (tinderref09_Named.calls k a0_0 true _ A14.out).mono ?_); rintro e w' ⟨rfl, ⟨nd, rfl⟩⟩; (try first | exact ⟨rfl, _, World.drewN_drewN _ _ _⟩ | exact ⟨rfl, _, Eq.trans (World.drewN_drewN _ _ _) (congrArg (World.drewN _) (Nat.add_assoc _ _ _))⟩))))
              go_meet
              case rel => exact ⟨_, (decide (a0_1 ≥ (l2.length : Int))), (by first | rfl | (simp; done) | (simp [*]; done)), H', ⟨by first | omega | exact Nat.le_refl _⟩, ⟨by (with_reducible repeat (first | refine blk_drewN ?_ _ | refine blk_drew ?_ | refine blk_alloc ?_ _)); exact BK191.out⟩, ⟨by repeat (first | (with_reducible first | exact HB.out | apply below_alloc | apply pw_below_drewN | apply below_drew1 | refine below_set ?_ GE191.out) | exact HB.out)⟩⟩
          · replace c15 := Bool.eq_false_iff.mpr c15
            subst c15
            have H1 : (tinderref09_wordFormed.j0 k a1 l2 true a0_0 a0_1 a0_2 a0_3 l0_4) = some r := by rw [if_neg (show ¬ (false = true) by decide)] at H; exact H
            clear H
            have H := H1
            clear H1
            have H' := Aside0.mk H
            clear H
            have hcz19_0 : w5.cell? ⟨gb191, 0, none⟩ = some (.string a0_0) := (blk_cell BK191.out 0).trans rfl
            have hcz19_1 : w5.cell? ⟨gb191, 1, none⟩ = some (.int .i64 a0_1) := (blk_cell BK191.out 1).trans rfl
            have hcz19_2 : w5.cell? ⟨gb191, 2, none⟩ = some (.int .i64 a0_2) := (blk_cell BK191.out 2).trans rfl
            have hcz19_3 : w5.cell? ⟨gb191, 3, none⟩ = some (.int .u32 a0_3) := (blk_cell BK191.out 3).trans rfl
            have hcz19_4 : w5.cell? ⟨gb191, 4, none⟩ = some (.slice A0_4 l0_4.length c0_4) := (blk_cell BK191.out 4).trans rfl
            have hfz19_0 := blk_frozen BK191.out 0
            have hfz19_1 := blk_frozen BK191.out 1
            have hfz19_2 := blk_frozen BK191.out 2
            have hfz19_3 := blk_frozen BK191.out 3
            have hfz19_4 := blk_frozen BK191.out 4
            go_wp2_with (first | (go_at_call 13; (with_reducible refine (tinderref09_Named.calls k a0_0 false _ A14.out).mono ?_); rintro e w' ⟨rfl, ⟨nd, rfl⟩⟩; (try first | exact ⟨rfl, _, World.drewN_drewN _ _ _⟩ | exact ⟨rfl, _, Eq.trans (World.drewN_drewN _ _ _) (congrArg (World.drewN _) (Nat.add_assoc _ _ _))⟩)))
            repeat (go_quiet (first | (go_at_call 13; (with_reducible refine (tinderref09_Named.calls k a0_0 false _ A14.out).mono ?_); rintro e w' ⟨rfl, ⟨nd, rfl⟩⟩; (try first | exact ⟨rfl, _, World.drewN_drewN _ _ _⟩ | exact ⟨rfl, _, Eq.trans (World.drewN_drewN _ _ _) (congrArg (World.drewN _) (Nat.add_assoc _ _ _))⟩))); try go_wp2_with (first | (go_at_call 13; (with_reducible refine (tinderref09_Named.calls k a0_0 false _ A14.out).mono ?_); rintro e w' ⟨rfl, ⟨nd, rfl⟩⟩; (try first | exact ⟨rfl, _, World.drewN_drewN _ _ _⟩ | exact ⟨rfl, _, Eq.trans (World.drewN_drewN _ _ _) (congrArg (World.drewN _) (Nat.add_assoc _ _ _))⟩))))
            go_meet
            case rel => exact ⟨_, (true), (by first | rfl | (simp; done) | (simp [*]; done)), H', ⟨by first | omega | exact Nat.le_refl _⟩, ⟨by (with_reducible repeat (first | refine blk_drewN ?_ _ | refine blk_drew ?_ | refine blk_alloc ?_ _)); exact BK191.out⟩, ⟨by repeat (first | (with_reducible first | exact HB.out | apply below_alloc | apply pw_below_drewN | apply below_drew1 | refine below_set ?_ GE191.out) | exact HB.out)⟩⟩
  case rest =>
    clear HC4
    try clear c1
    try clear c2
    try clear p2
    try clear c4
    try clear c6
    try clear c6b0
    try clear c8
    try clear c8b0
    try clear c10
    try clear c10b0
    try clear c10b1
    try clear c11
    try clear c11b0
    try clear c15
    try clear c16
    try clear c16b0
    try clear hcz12_0
    try clear hcz12_1
    try clear hcz12_2
    try clear hcz12_3
    try clear hcz12_4
    try clear hcz13_0
    try clear hcz13_1
    try clear hcz13_2
    try clear hcz13_3
    try clear hcz13_4
    try clear hcz17_0
    try clear hcz17_1
    try clear hcz17_2
    try clear hcz17_3
    try clear hcz17_4
    try clear hcz18_0
    try clear hcz18_1
    try clear hcz18_2
    try clear hcz18_3
    try clear hcz18_4
    try clear hcz19_0
    try clear hcz19_1
    try clear hcz19_2
    try clear hcz19_3
    try clear hcz19_4
    try clear hcz7_0
    try clear hcz7_1
    try clear hcz7_2
    try clear hcz7_3
    try clear hcz7_4
    try clear hcz9_0
    try clear hcz9_1
    try clear hcz9_2
    try clear hcz9_3
    try clear hcz9_4
    try clear hfz12_0
    try clear hfz12_1
    try clear hfz12_2
    try clear hfz12_3
    try clear hfz12_4
    try clear hfz13_0
    try clear hfz13_1
    try clear hfz13_2
    try clear hfz13_3
    try clear hfz13_4
    try clear hfz17_0
    try clear hfz17_1
    try clear hfz17_2
    try clear hfz17_3
    try clear hfz17_4
    try clear hfz18_0
    try clear hfz18_1
    try clear hfz18_2
    try clear hfz18_3
    try clear hfz18_4
    try clear hfz19_0
    try clear hfz19_1
    try clear hfz19_2
    try clear hfz19_3
    try clear hfz19_4
    try clear hfz7_0
    try clear hfz7_1
    try clear hfz7_2
    try clear hfz7_3
    try clear hfz7_4
    try clear hfz9_0
    try clear hfz9_1
    try clear hfz9_2
    try clear hfz9_3
    try clear hfz9_4
    obtain ⟨kq, x37_3, rfl, HA, HJ3, BK191, HB⟩ := hcut
    cases kq with
    | zero => exact absurd HA.out (by simp [tinderref09_wordFormed.j0])
    | succ kj3 =>
      have H := HA.out
      clear HA
      simp only [tinderref09_wordFormed.j0] at H
      by_cases c20 : x37_3 = true
      · subst c20
        have H1 : (some false) = some r := by rw [if_pos rfl] at H; exact H
        clear H
        have H := H1
        clear H1
        obtain rfl := Option.some.inj H
        go_wp2
        repeat (go_quiet (fail); try go_wp2)
        go_ret
        exact ⟨by first | rfl | (simp [errW_none, errW_some] <;> rfl) | (simp [*, errW_none, errW_some] <;> rfl), by repeat (first | (with_reducible first | exact HB.out | apply below_alloc | apply pw_below_drewN | apply below_drew1 | refine below_set ?_ GE191.out) | exact HB.out)⟩
      · replace c20 := Bool.eq_false_iff.mpr c20
        subst c20
        have H1 : (if a0_2 = 2 then (if a0_3 = 0 then ((tinderref09_Sound.f kj3 l0_4 a1).bind fun t193 => (some t193)) else (some false)) else (if a0_2 = 6 then (if (wrap64 (a0_3)) ≥ a1 then (some false) else (some ((l0_4.length : Int) == 0))) else (if a0_2 = 7 then (if a0_1 < 0 then (some false) else (if 0 ≤ a0_1 then (if a0_1 < (l2.length : Int) then (if (wrap64 (a0_3)) ≥ (((rd_T92 l2 a0_1).f4).length : Int) then (some false) else (some ((l0_4.length : Int) == 0))) else (none)) else (none))) else (some ((l0_4.length : Int) == 0))))) = some r := by rw [if_neg (show ¬ (false = true) by decide)] at H; exact H
        clear H
        have H := H1
        clear H1
        by_cases c21 : a0_2 = 2
        · rw [if_pos c21] at H
          have c21b0 : (a0_2 == 2) = true := beq_iff_eq.mpr c21
          have c21b1 : (a0_2 != 2) = false := bne_eq_false_iff_eq.mpr c21
          clear c21
          by_cases c22 : a0_3 = 0
          · rw [if_pos c22] at H
            have c22b0 : (a0_3 == 0) = true := beq_iff_eq.mpr c22
            have c22b1 : (a0_3 != 0) = false := bne_eq_false_iff_eq.mpr c22
            clear c22
            replace H := Option.bind_eq_some_iff.mp H
            obtain ⟨t193, A230, H⟩ := H
            replace H : (some t193) = some r := H
            have A23 := Aside0.mk A230
            clear A230
            obtain rfl := Option.some.inj H
            have hcz24_0 : wc.cell? ⟨gb191, 0, none⟩ = some (.string a0_0) := (blk_cell BK191.out 0).trans rfl
            have hcz24_1 : wc.cell? ⟨gb191, 1, none⟩ = some (.int .i64 a0_1) := (blk_cell BK191.out 1).trans rfl
            have hcz24_2 : wc.cell? ⟨gb191, 2, none⟩ = some (.int .i64 a0_2) := (blk_cell BK191.out 2).trans rfl
            have hcz24_3 : wc.cell? ⟨gb191, 3, none⟩ = some (.int .u32 a0_3) := (blk_cell BK191.out 3).trans rfl
            have hcz24_4 : wc.cell? ⟨gb191, 4, none⟩ = some (.slice A0_4 l0_4.length c0_4) := (blk_cell BK191.out 4).trans rfl
            have hfz24_0 := blk_frozen BK191.out 0
            have hfz24_1 := blk_frozen BK191.out 1
            have hfz24_2 := blk_frozen BK191.out 2
            have hfz24_3 := blk_frozen BK191.out 3
            have hfz24_4 := blk_frozen BK191.out 4
            go_wp2_with (first | (go_at_call 11; (with_reducible refine (tinderref09_Sound.calls kj3 _ _ l0_4 a1 t193 _ ?side1 ?side2 A23.out).mono ?_); (case side1 => repeat (first | exact (Kd.C_below HR0_4.out HB.out) | (with_reducible refine Kd.C_alloc ?_ _) | (with_reducible refine Kd.C_drewN ?_ _) | (with_reducible refine Kd.C_drew ?_))); (case side2 => exact HC0_4.out); rintro e w' ⟨rfl, ⟨nd, rfl⟩⟩; (try first | exact ⟨rfl, _, World.drewN_drewN _ _ _⟩ | exact ⟨rfl, _, Eq.trans (World.drewN_drewN _ _ _) (congrArg (World.drewN _) (Nat.add_assoc _ _ _))⟩)))
            repeat (go_quiet (first | (go_at_call 11; (with_reducible refine (tinderref09_Sound.calls kj3 _ _ l0_4 a1 t193 _ ?side1 ?side2 A23.out).mono ?_); (case side1 => repeat (first | exact (Kd.C_below HR0_4.out HB.out) | (with_reducible refine Kd.C_alloc ?_ _) | (with_reducible refine Kd.C_drewN ?_ _) | (with_reducible refine Kd.C_drew ?_))); (case side2 => exact HC0_4.out); rintro e w' ⟨rfl, ⟨nd, rfl⟩⟩; (try first | exact ⟨rfl, _, World.drewN_drewN _ _ _⟩ | exact ⟨rfl, _, Eq.trans (World.drewN_drewN _ _ _) (congrArg (World.drewN _) (Nat.add_assoc _ _ _))⟩))); try go_wp2_with (first | (go_at_call 11; (with_reducible refine (tinderref09_Sound.calls kj3 _ _ l0_4 a1 t193 _ ?side1 ?side2 A23.out).mono ?_); (case side1 => repeat (first | exact (Kd.C_below HR0_4.out HB.out) | (with_reducible refine Kd.C_alloc ?_ _) | (with_reducible refine Kd.C_drewN ?_ _) | (with_reducible refine Kd.C_drew ?_))); (case side2 => exact HC0_4.out); rintro e w' ⟨rfl, ⟨nd, rfl⟩⟩; (try first | exact ⟨rfl, _, World.drewN_drewN _ _ _⟩ | exact ⟨rfl, _, Eq.trans (World.drewN_drewN _ _ _) (congrArg (World.drewN _) (Nat.add_assoc _ _ _))⟩))))
            go_ret
            exact ⟨by first | rfl | (simp [errW_none, errW_some] <;> rfl) | (simp [*, errW_none, errW_some] <;> rfl), by repeat (first | (with_reducible first | exact HB.out | apply below_alloc | apply pw_below_drewN | apply below_drew1 | refine below_set ?_ GE191.out) | exact HB.out)⟩
          · rw [if_neg c22] at H
            have c22b0 : (a0_3 == 0) = false := beq_eq_false_iff_ne.mpr c22
            have c22b1 : (a0_3 != 0) = true := bne_iff_ne.mpr c22
            obtain rfl := Option.some.inj H
            have hcz25_0 : wc.cell? ⟨gb191, 0, none⟩ = some (.string a0_0) := (blk_cell BK191.out 0).trans rfl
            have hcz25_1 : wc.cell? ⟨gb191, 1, none⟩ = some (.int .i64 a0_1) := (blk_cell BK191.out 1).trans rfl
            have hcz25_2 : wc.cell? ⟨gb191, 2, none⟩ = some (.int .i64 a0_2) := (blk_cell BK191.out 2).trans rfl
            have hcz25_3 : wc.cell? ⟨gb191, 3, none⟩ = some (.int .u32 a0_3) := (blk_cell BK191.out 3).trans rfl
            have hcz25_4 : wc.cell? ⟨gb191, 4, none⟩ = some (.slice A0_4 l0_4.length c0_4) := (blk_cell BK191.out 4).trans rfl
            have hfz25_0 := blk_frozen BK191.out 0
            have hfz25_1 := blk_frozen BK191.out 1
            have hfz25_2 := blk_frozen BK191.out 2
            have hfz25_3 := blk_frozen BK191.out 3
            have hfz25_4 := blk_frozen BK191.out 4
            go_wp2
            repeat (go_quiet (fail); try go_wp2)
            go_ret
            exact ⟨by first | rfl | (simp [errW_none, errW_some] <;> rfl) | (simp [*, errW_none, errW_some] <;> rfl), by repeat (first | (with_reducible first | exact HB.out | apply below_alloc | apply pw_below_drewN | apply below_drew1 | refine below_set ?_ GE191.out) | exact HB.out)⟩
        · rw [if_neg c21] at H
          have c21b0 : (a0_2 == 2) = false := beq_eq_false_iff_ne.mpr c21
          have c21b1 : (a0_2 != 2) = true := bne_iff_ne.mpr c21
          by_cases c26 : a0_2 = 6
          · rw [if_pos c26] at H
            have c26b0 : (a0_2 == 6) = true := beq_iff_eq.mpr c26
            have c26b1 : (a0_2 != 6) = false := bne_eq_false_iff_eq.mpr c26
            clear c26
            by_cases c27 : (wrap64 (a0_3)) ≥ a1
            · rw [if_pos c27] at H
              have c27b0 : decide (a1 ≤ (wrap64 (a0_3))) = true := decide_eq_true c27
              clear c27
              obtain rfl := Option.some.inj H
              have hcz28_0 : wc.cell? ⟨gb191, 0, none⟩ = some (.string a0_0) := (blk_cell BK191.out 0).trans rfl
              have hcz28_1 : wc.cell? ⟨gb191, 1, none⟩ = some (.int .i64 a0_1) := (blk_cell BK191.out 1).trans rfl
              have hcz28_2 : wc.cell? ⟨gb191, 2, none⟩ = some (.int .i64 a0_2) := (blk_cell BK191.out 2).trans rfl
              have hcz28_3 : wc.cell? ⟨gb191, 3, none⟩ = some (.int .u32 a0_3) := (blk_cell BK191.out 3).trans rfl
              have hcz28_4 : wc.cell? ⟨gb191, 4, none⟩ = some (.slice A0_4 l0_4.length c0_4) := (blk_cell BK191.out 4).trans rfl
              have hfz28_0 := blk_frozen BK191.out 0
              have hfz28_1 := blk_frozen BK191.out 1
              have hfz28_2 := blk_frozen BK191.out 2
              have hfz28_3 := blk_frozen BK191.out 3
              have hfz28_4 := blk_frozen BK191.out 4
              go_wp2
              repeat (go_quiet (fail); try go_wp2)
              go_ret
              exact ⟨by first | rfl | (simp [errW_none, errW_some] <;> rfl) | (simp [*, errW_none, errW_some] <;> rfl), by repeat (first | (with_reducible first | exact HB.out | apply below_alloc | apply pw_below_drewN | apply below_drew1 | refine below_set ?_ GE191.out) | exact HB.out)⟩
            · rw [if_neg c27] at H
              have c27b0 : decide (a1 ≤ (wrap64 (a0_3))) = false := decide_eq_false c27
              clear c27
              obtain rfl := Option.some.inj H
              have hcz29_0 : wc.cell? ⟨gb191, 0, none⟩ = some (.string a0_0) := (blk_cell BK191.out 0).trans rfl
              have hcz29_1 : wc.cell? ⟨gb191, 1, none⟩ = some (.int .i64 a0_1) := (blk_cell BK191.out 1).trans rfl
              have hcz29_2 : wc.cell? ⟨gb191, 2, none⟩ = some (.int .i64 a0_2) := (blk_cell BK191.out 2).trans rfl
              have hcz29_3 : wc.cell? ⟨gb191, 3, none⟩ = some (.int .u32 a0_3) := (blk_cell BK191.out 3).trans rfl
              have hcz29_4 : wc.cell? ⟨gb191, 4, none⟩ = some (.slice A0_4 l0_4.length c0_4) := (blk_cell BK191.out 4).trans rfl
              have hfz29_0 := blk_frozen BK191.out 0
              have hfz29_1 := blk_frozen BK191.out 1
              have hfz29_2 := blk_frozen BK191.out 2
              have hfz29_3 := blk_frozen BK191.out 3
              have hfz29_4 := blk_frozen BK191.out 4
              go_wp2
              repeat (go_quiet (fail); try go_wp2)
              go_ret
              exact ⟨by first | rfl | (simp [errW_none, errW_some] <;> rfl) | (simp [*, errW_none, errW_some] <;> rfl), by repeat (first | (with_reducible first | exact HB.out | apply below_alloc | apply pw_below_drewN | apply below_drew1 | refine below_set ?_ GE191.out) | exact HB.out)⟩
          · rw [if_neg c26] at H
            have c26b0 : (a0_2 == 6) = false := beq_eq_false_iff_ne.mpr c26
            have c26b1 : (a0_2 != 6) = true := bne_iff_ne.mpr c26
            by_cases c30 : a0_2 = 7
            · rw [if_pos c30] at H
              have c30b0 : (a0_2 == 7) = true := beq_iff_eq.mpr c30
              have c30b1 : (a0_2 != 7) = false := bne_eq_false_iff_eq.mpr c30
              clear c30
              by_cases c31 : a0_1 < 0
              · rw [if_pos c31] at H
                have c31b0 : decide (a0_1 < 0) = true := decide_eq_true c31
                clear c31
                obtain rfl := Option.some.inj H
                have hcz32_0 : wc.cell? ⟨gb191, 0, none⟩ = some (.string a0_0) := (blk_cell BK191.out 0).trans rfl
                have hcz32_1 : wc.cell? ⟨gb191, 1, none⟩ = some (.int .i64 a0_1) := (blk_cell BK191.out 1).trans rfl
                have hcz32_2 : wc.cell? ⟨gb191, 2, none⟩ = some (.int .i64 a0_2) := (blk_cell BK191.out 2).trans rfl
                have hcz32_3 : wc.cell? ⟨gb191, 3, none⟩ = some (.int .u32 a0_3) := (blk_cell BK191.out 3).trans rfl
                have hcz32_4 : wc.cell? ⟨gb191, 4, none⟩ = some (.slice A0_4 l0_4.length c0_4) := (blk_cell BK191.out 4).trans rfl
                have hfz32_0 := blk_frozen BK191.out 0
                have hfz32_1 := blk_frozen BK191.out 1
                have hfz32_2 := blk_frozen BK191.out 2
                have hfz32_3 := blk_frozen BK191.out 3
                have hfz32_4 := blk_frozen BK191.out 4
                go_wp2
                repeat (go_quiet (fail); try go_wp2)
                go_ret
                exact ⟨by first | rfl | (simp [errW_none, errW_some] <;> rfl) | (simp [*, errW_none, errW_some] <;> rfl), by repeat (first | (with_reducible first | exact HB.out | apply below_alloc | apply pw_below_drewN | apply below_drew1 | refine below_set ?_ GE191.out) | exact HB.out)⟩
              · rw [if_neg c31] at H
                have c31b0 : decide (a0_1 < 0) = false := decide_eq_false c31
                clear c31
                by_cases c33 : 0 ≤ a0_1
                · rw [if_pos c33] at H
                  have c33b0 : decide (0 ≤ a0_1) = true := decide_eq_true c33
                  clear c33
                  by_cases c34 : a0_1 < (l2.length : Int)
                  · rw [if_pos c34] at H
                    have c34b0 : decide (a0_1 < (l2.length : Int)) = true := decide_eq_true c34
                    clear c34
                    by_cases c35 : (wrap64 (a0_3)) ≥ (((rd_T92 l2 a0_1).f4).length : Int)
                    · rw [if_pos c35] at H
                      have c35b0 : decide ((((rd_T92 l2 a0_1).f4).length : Int) ≤ (wrap64 (a0_3))) = true := decide_eq_true c35
                      clear c35
                      obtain rfl := Option.some.inj H
                      have hcz36_0 : wc.cell? ⟨gb191, 0, none⟩ = some (.string a0_0) := (blk_cell BK191.out 0).trans rfl
                      have hcz36_1 : wc.cell? ⟨gb191, 1, none⟩ = some (.int .i64 a0_1) := (blk_cell BK191.out 1).trans rfl
                      have hcz36_2 : wc.cell? ⟨gb191, 2, none⟩ = some (.int .i64 a0_2) := (blk_cell BK191.out 2).trans rfl
                      have hcz36_3 : wc.cell? ⟨gb191, 3, none⟩ = some (.int .u32 a0_3) := (blk_cell BK191.out 3).trans rfl
                      have hcz36_4 : wc.cell? ⟨gb191, 4, none⟩ = some (.slice A0_4 l0_4.length c0_4) := (blk_cell BK191.out 4).trans rfl
                      have hfz36_0 := blk_frozen BK191.out 0
                      have hfz36_1 := blk_frozen BK191.out 1
                      have hfz36_2 := blk_frozen BK191.out 2
                      have hfz36_3 := blk_frozen BK191.out 3
                      have hfz36_4 := blk_frozen BK191.out 4
                      have p194 : 0 ≤ (a0_1 : Int) := of_decide_eq_true (by first | (with_reducible assumption) | assumption)
                      have q194 : a0_1 < (l2.length : Int) := of_decide_eq_true (by first | (with_reducible assumption) | assumption)
                      obtain ⟨ad194, A194_1, c194_1, A194_3, c194_3, A194_4, c194_4, e194, hx194_0, hx194_1, hx194_2, hx194_3, hx194_4, hl194_1, hi194_1, hl194_3, hi194_3, hl194_4, hi194_4⟩ := at_T92 HR2.out a0_1 p194 q194
                      cases e194
                      replace hx194_0 := (HB.out.cell (World.block_lt_of_cell? w _ hx194_0)).trans hx194_0
                      replace hx194_1 := (HB.out.cell (World.block_lt_of_cell? w _ hx194_1)).trans hx194_1
                      replace hx194_2 := (HB.out.cell (World.block_lt_of_cell? w _ hx194_2)).trans hx194_2
                      replace hx194_3 := (HB.out.cell (World.block_lt_of_cell? w _ hx194_3)).trans hx194_3
                      replace hx194_4 := (HB.out.cell (World.block_lt_of_cell? w _ hx194_4)).trans hx194_4
                      have HR194_1 := Aside0.mk hi194_1
                      have HC194_1 := Aside0.mk hl194_1
                      clear hi194_1 hl194_1
                      have HR194_3 := Aside0.mk hi194_3
                      have HC194_3 := Aside0.mk hl194_3
                      clear hi194_3 hl194_3
                      have HR194_4 := Aside0.mk hi194_4
                      have HC194_4 := Aside0.mk hl194_4
                      clear hi194_4 hl194_4
                      replace p194 := eq_true p194
                      replace q194 := eq_true q194
                      go_wp2
                      repeat (go_quiet (fail); try go_wp2)
                      go_ret
                      exact ⟨by first | rfl | (simp [errW_none, errW_some] <;> rfl) | (simp [*, errW_none, errW_some] <;> rfl), by repeat (first | (with_reducible first | exact HB.out | apply below_alloc | apply pw_below_drewN | apply below_drew1 | refine below_set ?_ GE191.out) | exact HB.out)⟩
                    · rw [if_neg c35] at H
                      have c35b0 : decide ((((rd_T92 l2 a0_1).f4).length : Int) ≤ (wrap64 (a0_3))) = false := decide_eq_false c35
                      clear c35
                      obtain rfl := Option.some.inj H
                      have hcz37_0 : wc.cell? ⟨gb191, 0, none⟩ = some (.string a0_0) := (blk_cell BK191.out 0).trans rfl
                      have hcz37_1 : wc.cell? ⟨gb191, 1, none⟩ = some (.int .i64 a0_1) := (blk_cell BK191.out 1).trans rfl
                      have hcz37_2 : wc.cell? ⟨gb191, 2, none⟩ = some (.int .i64 a0_2) := (blk_cell BK191.out 2).trans rfl
                      have hcz37_3 : wc.cell? ⟨gb191, 3, none⟩ = some (.int .u32 a0_3) := (blk_cell BK191.out 3).trans rfl
                      have hcz37_4 : wc.cell? ⟨gb191, 4, none⟩ = some (.slice A0_4 l0_4.length c0_4) := (blk_cell BK191.out 4).trans rfl
                      have hfz37_0 := blk_frozen BK191.out 0
                      have hfz37_1 := blk_frozen BK191.out 1
                      have hfz37_2 := blk_frozen BK191.out 2
                      have hfz37_3 := blk_frozen BK191.out 3
                      have hfz37_4 := blk_frozen BK191.out 4
                      have p194 : 0 ≤ (a0_1 : Int) := of_decide_eq_true (by first | (with_reducible assumption) | assumption)
                      have q194 : a0_1 < (l2.length : Int) := of_decide_eq_true (by first | (with_reducible assumption) | assumption)
                      obtain ⟨ad194, A194_1, c194_1, A194_3, c194_3, A194_4, c194_4, e194, hx194_0, hx194_1, hx194_2, hx194_3, hx194_4, hl194_1, hi194_1, hl194_3, hi194_3, hl194_4, hi194_4⟩ := at_T92 HR2.out a0_1 p194 q194
                      cases e194
                      replace hx194_0 := (HB.out.cell (World.block_lt_of_cell? w _ hx194_0)).trans hx194_0
                      replace hx194_1 := (HB.out.cell (World.block_lt_of_cell? w _ hx194_1)).trans hx194_1
                      replace hx194_2 := (HB.out.cell (World.block_lt_of_cell? w _ hx194_2)).trans hx194_2
                      replace hx194_3 := (HB.out.cell (World.block_lt_of_cell? w _ hx194_3)).trans hx194_3
                      replace hx194_4 := (HB.out.cell (World.block_lt_of_cell? w _ hx194_4)).trans hx194_4
                      have HR194_1 := Aside0.mk hi194_1
                      have HC194_1 := Aside0.mk hl194_1
                      clear hi194_1 hl194_1
                      have HR194_3 := Aside0.mk hi194_3
                      have HC194_3 := Aside0.mk hl194_3
                      clear hi194_3 hl194_3
                      have HR194_4 := Aside0.mk hi194_4
                      have HC194_4 := Aside0.mk hl194_4
                      clear hi194_4 hl194_4
                      replace p194 := eq_true p194
                      replace q194 := eq_true q194
                      go_wp2
                      repeat (go_quiet (fail); try go_wp2)
                      go_ret
                      exact ⟨by first | rfl | (simp [errW_none, errW_some] <;> rfl) | (simp [*, errW_none, errW_some] <;> rfl), by repeat (first | (with_reducible first | exact HB.out | apply below_alloc | apply pw_below_drewN | apply below_drew1 | refine below_set ?_ GE191.out) | exact HB.out)⟩
                  · rw [if_neg c34] at H
                    exact absurd H (by simp)
                · rw [if_neg c33] at H
                  exact absurd H (by simp)
            · rw [if_neg c30] at H
              have c30b0 : (a0_2 == 7) = false := beq_eq_false_iff_ne.mpr c30
              have c30b1 : (a0_2 != 7) = true := bne_iff_ne.mpr c30
              obtain rfl := Option.some.inj H
              have hcz38_0 : wc.cell? ⟨gb191, 0, none⟩ = some (.string a0_0) := (blk_cell BK191.out 0).trans rfl
              have hcz38_1 : wc.cell? ⟨gb191, 1, none⟩ = some (.int .i64 a0_1) := (blk_cell BK191.out 1).trans rfl
              have hcz38_2 : wc.cell? ⟨gb191, 2, none⟩ = some (.int .i64 a0_2) := (blk_cell BK191.out 2).trans rfl
              have hcz38_3 : wc.cell? ⟨gb191, 3, none⟩ = some (.int .u32 a0_3) := (blk_cell BK191.out 3).trans rfl
              have hcz38_4 : wc.cell? ⟨gb191, 4, none⟩ = some (.slice A0_4 l0_4.length c0_4) := (blk_cell BK191.out 4).trans rfl
              have hfz38_0 := blk_frozen BK191.out 0
              have hfz38_1 := blk_frozen BK191.out 1
              have hfz38_2 := blk_frozen BK191.out 2
              have hfz38_3 := blk_frozen BK191.out 3
              have hfz38_4 := blk_frozen BK191.out 4
              go_wp2
              repeat (go_quiet (fail); try go_wp2)
              go_ret
              exact ⟨by first | rfl | (simp [errW_none, errW_some] <;> rfl) | (simp [*, errW_none, errW_some] <;> rfl), by repeat (first | (with_reducible first | exact HB.out | apply below_alloc | apply pw_below_drewN | apply below_drew1 | refine below_set ?_ GE191.out) | exact HB.out)⟩
end Go.Proofs.Ytpalbpakeokimaa.PK
