/- tinder: a part of the proof, joined and pruned by wip/tools/prune.py out of: K41 -/
import Derived.Test.YtpalbpakeokimaaFK0
namespace Go.Proofs.Ytpalbpakeokimaa.PK
open Go.RowKit Go.Proofs.YtpalbpakeokimaaW.PrintWords Go.Proofs.YtpalbpakeokimaaW.PrintLast Go.Proofs.YtpalbpakeokimaaW.PrintMore
attribute [local go_sem] max2_int min2_int max_two min_two max_three min_three max_four min_four
set_option linter.unusedVariables false
set_option linter.unusedSimpArgs false
mutual
def dict_Sound.l0 : Nat → List (S57) → Int → List (S57) → Int → Int → Option (Bool)
  | 0, _, _, _, _, _ => none
  | k + 1, x0, x1, x12, x13, x14 => if x14 < x13 then (if 0 ≤ x14 then (if x14 < (x12.length : Int) then (if ((rd_T57 x12 x14).f0) = 1 then (dict_Sound.l0 k x0 x1 x12 x13 (wrap64 (x14 + 1))) else (if ((rd_T57 x12 x14).f0) = 2 then (dict_Sound.j1 k x0 x1 false (wrap64 ((rd_T57 x12 x14).f1)) x12 x13 x14 ((rd_T57 x12 x14).f0) (((rd_T57 x12 x14).f0) == 2)) else (dict_Sound.j1 k x0 x1 false (wrap64 ((rd_T57 x12 x14).f1)) x12 x13 x14 ((rd_T57 x12 x14).f0) (((rd_T57 x12 x14).f0) == 13)))) else (none)) else (none)) else (some true)
def dict_Sound.j1 : Nat → List (S57) → Int → Bool → Int → List (S57) → Int → Int → Int → Bool → Option (Bool)
  | 0, _, _, _, _, _, _, _, _, _ => none
  | k + 1, x0, x1, x7, x8, x12, x13, x14, x22, x25 => if x25 = true then (if x8 < x1 then (dict_Sound.l0 k x0 x1 x12 x13 (wrap64 (x14 + 1))) else (some false)) else (if x22 = 11 then (dict_Sound.j2 k x0 x1 x7 x8 x12 x13 x14 x22 (x22 == 11)) else (dict_Sound.j2 k x0 x1 x7 x8 x12 x13 x14 x22 (x22 == 12)))
def dict_Sound.j2 : Nat → List (S57) → Int → Bool → Int → List (S57) → Int → Int → Int → Bool → Option (Bool)
  | 0, _, _, _, _, _, _, _, _, _ => none
  | k + 1, x0, x1, x7, x8, x12, x13, x14, x22, x31 => if x31 = true then (if x8 = 0 then (dict_Sound.l0 k x0 x1 x12 x13 (wrap64 (x14 + 1))) else (some false)) else (if x22 = 3 then (dict_Sound.j3 k x0 x1 x7 x8 x12 x13 x14 (x22 == 3)) else (if x22 = 4 then (dict_Sound.j3 k x0 x1 x7 x8 x12 x13 x14 (x22 == 4)) else (if x22 = 5 then (dict_Sound.j3 k x0 x1 x7 x8 x12 x13 x14 (x22 == 5)) else (if x22 = 6 then (dict_Sound.j3 k x0 x1 x7 x8 x12 x13 x14 (x22 == 6)) else (if x22 = 7 then (dict_Sound.j3 k x0 x1 x7 x8 x12 x13 x14 (x22 == 7)) else (if x22 = 8 then (dict_Sound.j3 k x0 x1 x7 x8 x12 x13 x14 (x22 == 8)) else (if x22 = 9 then (dict_Sound.j3 k x0 x1 x7 x8 x12 x13 x14 (x22 == 9)) else (dict_Sound.j3 k x0 x1 x7 x8 x12 x13 x14 (x22 == 10)))))))))
def dict_Sound.j3 : Nat → List (S57) → Int → Bool → Int → List (S57) → Int → Int → Bool → Option (Bool)
  | 0, _, _, _, _, _, _, _, _ => none
  | k + 1, x0, x1, x7, x8, x12, x13, x14, x36 => if x36 = true then (if (x8 ≤ (x0.length : Int)) then (dict_Sound.l0 k x0 x1 x12 x13 (wrap64 (x14 + 1))) else (some false)) else (if x7 = true then (dict_Sound.l0 k x0 x1 x12 x13 (wrap64 (x14 + 1))) else (some false))
end
def dict_Sound.f (k : Nat) (l0 : List (S57)) (a1 : Int) : Option (Bool) := if (l0.length : Int) > 256 then (some false) else (dict_Sound.l0 k l0 a1 l0 (l0.length : Int) 0)
theorem dict_Sound.mono_l : ∀ k, (∀ y0 y1 y2 y3 y4, LeO (dict_Sound.l0 k y0 y1 y2 y3 y4) (dict_Sound.l0 (k + 1) y0 y1 y2 y3 y4)) ∧ (∀ y0 y1 y2 y3 y4 y5 y6 y7 y8, LeO (dict_Sound.j1 k y0 y1 y2 y3 y4 y5 y6 y7 y8) (dict_Sound.j1 (k + 1) y0 y1 y2 y3 y4 y5 y6 y7 y8)) ∧ (∀ y0 y1 y2 y3 y4 y5 y6 y7 y8, LeO (dict_Sound.j2 k y0 y1 y2 y3 y4 y5 y6 y7 y8) (dict_Sound.j2 (k + 1) y0 y1 y2 y3 y4 y5 y6 y7 y8)) ∧ (∀ y0 y1 y2 y3 y4 y5 y6 y7, LeO (dict_Sound.j3 k y0 y1 y2 y3 y4 y5 y6 y7) (dict_Sound.j3 (k + 1) y0 y1 y2 y3 y4 y5 y6 y7))
  | 0 => ⟨fun _ _ _ _ _ r h => by simp [dict_Sound.l0] at h, fun _ _ _ _ _ _ _ _ _ r h => by simp [dict_Sound.j1] at h, fun _ _ _ _ _ _ _ _ _ r h => by simp [dict_Sound.j2] at h, fun _ _ _ _ _ _ _ _ r h => by simp [dict_Sound.j3] at h⟩
  | k + 1 => by
    obtain ⟨ih0, ih1, ih2, ih3⟩ := dict_Sound.mono_l k
    refine ⟨?_, ?_, ?_, ?_⟩
    · intro y0 y1 y2 y3 y4
      unfold dict_Sound.l0
      repeat' first
      | (with_reducible exact ih0 _ _ _ _ _)
      | (with_reducible exact ih1 _ _ _ _ _ _ _ _ _)
      | (with_reducible exact ih2 _ _ _ _ _ _ _ _ _)
      | (with_reducible exact ih3 _ _ _ _ _ _ _ _)
      | (with_reducible exact LeO.refl _)
      | (with_reducible exact LeO.none _)
      | (with_reducible refine LeO.ite ?_ ?_)
      | (with_reducible refine LeO.bind ?_ (fun _ => ?_))
      | exact ih0 _ _ _ _ _
      | exact ih1 _ _ _ _ _ _ _ _ _
      | exact ih2 _ _ _ _ _ _ _ _ _
      | exact ih3 _ _ _ _ _ _ _ _
      | exact LeO.none _
      | refine LeO.ite ?_ ?_
      | refine LeO.bind ?_ (fun _ => ?_)
    · intro y0 y1 y2 y3 y4 y5 y6 y7 y8
      unfold dict_Sound.j1
      repeat' first
      | (with_reducible exact ih0 _ _ _ _ _)
      | (with_reducible exact ih1 _ _ _ _ _ _ _ _ _)
      | (with_reducible exact ih2 _ _ _ _ _ _ _ _ _)
      | (with_reducible exact ih3 _ _ _ _ _ _ _ _)
      | (with_reducible exact LeO.refl _)
      | (with_reducible exact LeO.none _)
      | (with_reducible refine LeO.ite ?_ ?_)
      | (with_reducible refine LeO.bind ?_ (fun _ => ?_))
      | exact ih0 _ _ _ _ _
      | exact ih1 _ _ _ _ _ _ _ _ _
      | exact ih2 _ _ _ _ _ _ _ _ _
      | exact ih3 _ _ _ _ _ _ _ _
      | exact LeO.none _
      | refine LeO.ite ?_ ?_
      | refine LeO.bind ?_ (fun _ => ?_)
    · intro y0 y1 y2 y3 y4 y5 y6 y7 y8
      unfold dict_Sound.j2
      repeat' first
      | (with_reducible exact ih0 _ _ _ _ _)
      | (with_reducible exact ih1 _ _ _ _ _ _ _ _ _)
      | (with_reducible exact ih2 _ _ _ _ _ _ _ _ _)
      | (with_reducible exact ih3 _ _ _ _ _ _ _ _)
      | (with_reducible exact LeO.refl _)
      | (with_reducible exact LeO.none _)
      | (with_reducible refine LeO.ite ?_ ?_)
      | (with_reducible refine LeO.bind ?_ (fun _ => ?_))
      | exact ih0 _ _ _ _ _
      | exact ih1 _ _ _ _ _ _ _ _ _
      | exact ih2 _ _ _ _ _ _ _ _ _
      | exact ih3 _ _ _ _ _ _ _ _
      | exact LeO.none _
      | refine LeO.ite ?_ ?_
      | refine LeO.bind ?_ (fun _ => ?_)
    · intro y0 y1 y2 y3 y4 y5 y6 y7
      unfold dict_Sound.j3
      repeat' first
      | (with_reducible exact ih0 _ _ _ _ _)
      | (with_reducible exact ih1 _ _ _ _ _ _ _ _ _)
      | (with_reducible exact ih2 _ _ _ _ _ _ _ _ _)
      | (with_reducible exact ih3 _ _ _ _ _ _ _ _)
      | (with_reducible exact LeO.refl _)
      | (with_reducible exact LeO.none _)
      | (with_reducible refine LeO.ite ?_ ?_)
      | (with_reducible refine LeO.bind ?_ (fun _ => ?_))
      | exact ih0 _ _ _ _ _
      | exact ih1 _ _ _ _ _ _ _ _ _
      | exact ih2 _ _ _ _ _ _ _ _ _
      | exact ih3 _ _ _ _ _ _ _ _
      | exact LeO.none _
      | refine LeO.ite ?_ ?_
      | refine LeO.bind ?_ (fun _ => ?_)
theorem dict_Sound.mono : ∀ a0 a1 k, LeO (dict_Sound.f k a0 a1) (dict_Sound.f (k + 1) a0 a1) := by
  intro a0 a1 k
  obtain ⟨ih0, ih1, ih2, ih3⟩ := dict_Sound.mono_l k
  unfold dict_Sound.f
  repeat' first
      | (with_reducible exact ih0 _ _ _ _ _)
      | (with_reducible exact ih1 _ _ _ _ _ _ _ _ _)
      | (with_reducible exact ih2 _ _ _ _ _ _ _ _ _)
      | (with_reducible exact ih3 _ _ _ _ _ _ _ _)
      | (with_reducible exact LeO.refl _)
      | (with_reducible exact LeO.none _)
      | (with_reducible refine LeO.ite ?_ ?_)
      | (with_reducible refine LeO.bind ?_ (fun _ => ?_))
      | exact ih0 _ _ _ _ _
      | exact ih1 _ _ _ _ _ _ _ _ _
      | exact ih2 _ _ _ _ _ _ _ _ _
      | exact ih3 _ _ _ _ _ _ _ _
      | exact LeO.none _
      | refine LeO.ite ?_ ?_
      | refine LeO.bind ?_ (fun _ => ?_)
set_option maxHeartbeats 8000000 in
set_option maxRecDepth 100000 in
theorem dict_Sound.calls (k : Nat) (A0 : Option Addr) (c0 : Nat) (l0 : List (S57)) (a1 : Int) (r : Bool) (w : World) (hr0 : Kd.C k57 w A0 l0.length l0) (hc0 : l0.length ≤ c0) (h : dict_Sound.f k l0 a1 = some r) :
    Calls Try.prog 10 #[.slice A0 l0.length c0, .int .i64 a1] w fun e w' => e = .returned (.bool r) ∧ Below w.heap.size w w' := by
  have hu57 := Try.underlying57
  have HR0 := Aside0.mk hr0
  have HC0 := Aside0.mk hc0
  clear hr0 hc0
  have HB := Aside0.mk (Below.refl w.heap.size w)
  have H : (if (l0.length : Int) > 256 then (some false) else (dict_Sound.l0 k l0 a1 l0 (l0.length : Int) 0)) = some r := h
  clear h
  by_cases c3 : (l0.length : Int) > 256
  · rw [if_pos c3] at H
    have c3b0 : decide (256 < (l0.length : Int)) = true := decide_eq_true c3
    have c3b1 : decide (256 < l0.length) = true := decide_eq_true (by omega)
    clear c3
    obtain rfl := Option.some.inj H
    go_enter Try.func10, Try.ntmps10
    go_wp2
    go_ret
    exact ⟨by first | rfl | (simp [errW_none, errW_some] <;> rfl) | (simp [*, errW_none, errW_some] <;> rfl), by repeat (first | (with_reducible first | exact HB.out | apply below_alloc | apply pw_below_drewN | apply below_drew1) | exact HB.out)⟩
  · rw [if_neg c3] at H
    have c3b0 : decide (256 < (l0.length : Int)) = false := decide_eq_false c3
    have c3b1 : decide (256 < l0.length) = false := decide_eq_false (by omega)
    clear c3
    have H' := Aside0.mk H
    clear H
    go_enter Try.func10, Try.ntmps10
    go_wp2
    go_loopg [14] k (fun kq v14 w' => ∃ (x14_1 : Int), v14 = .int .i64 x14_1 ∧ Aside0 (dict_Sound.l0 kq l0 a1 l0 (l0.length : Int) x14_1 = some r) ∧ Aside0 (kq ≤ k) ∧ Aside0 (Below w.heap.size w w'))
    case atStart => exact ⟨(0), (by first | rfl | (simp; done) | (simp [*]; done)), H', ⟨Nat.le_refl _⟩, ⟨by repeat (first | (with_reducible first | exact HB.out | apply below_alloc | apply pw_below_drewN | apply below_drew1) | exact HB.out)⟩⟩
    case round =>
      clear H'
      try clear c1
      try clear p2
      try clear c3
      try clear c3b0
      try clear c3b1
      obtain ⟨x14_1, rfl, HA, HK1, HB⟩ := hrel
      cases gk with
      | zero => exact absurd HA.out (by simp [dict_Sound.l0])
      | succ k1 =>
        have H := HA.out
        clear HA
        simp only [dict_Sound.l0] at H
        by_cases c4 : x14_1 < (l0.length : Int)
        · rw [if_pos c4] at H
          have c4b0 : decide (x14_1 < (l0.length : Int)) = true := decide_eq_true c4
          clear c4
          by_cases c5 : 0 ≤ x14_1
          · rw [if_pos c5] at H
            have c5b0 : decide (0 ≤ x14_1) = true := decide_eq_true c5
            clear c5
            by_cases c6 : x14_1 < (l0.length : Int)
            · rw [if_pos c6] at H
              have c6b0 : decide (x14_1 < (l0.length : Int)) = true := decide_eq_true c6
              clear c6
              by_cases c7 : ((rd_T57 l0 x14_1).f0) = 1
              · rw [if_pos c7] at H
                have c7b0 : (((rd_T57 l0 x14_1).f0) == 1) = true := beq_iff_eq.mpr c7
                have c7b1 : (((rd_T57 l0 x14_1).f0) != 1) = false := bne_eq_false_iff_eq.mpr c7
                clear c7
                have H' := Aside0.mk H
                clear H
                have p117 : 0 ≤ (x14_1 : Int) := of_decide_eq_true (by first | (with_reducible assumption) | assumption)
                have q117 : x14_1 < (l0.length : Int) := of_decide_eq_true (by first | (with_reducible assumption) | assumption)
                obtain ⟨ad117, e117, hx117_0, hx117_1⟩ := at_T57 HR0.out x14_1 p117 q117
                cases e117
                replace hx117_0 := (HB.out.cell (World.block_lt_of_cell? w _ hx117_0)).trans hx117_0
                replace hx117_1 := (HB.out.cell (World.block_lt_of_cell? w _ hx117_1)).trans hx117_1
                replace p117 := eq_true p117
                replace q117 := eq_true q117
                go_wp2_with (first | ((with_reducible refine gate_dst (N := 6) rfl ?_); refine box_event ?hg (N := 6) ?hd (cs := #[.int .i64 0, .int .u32 0]) (t := 57) ?hr ?_; (case hd => rfl); (case hg => rfl); (case hr => first | (go_simp; done) | (go_simp; rfl)); intro gb118 hg w8 hbox hb; have n0_ := Aside0.mk (below_step (by repeat (first | (with_reducible first | exact HB.out | apply below_alloc | apply pw_below_drewN | apply below_drew1) | exact HB.out)) hb); have n1_ := Aside0.mk (hbox); have n2_ := Aside0.mk ((by rw [hg]; exact (below_size (by repeat (first | (with_reducible first | exact HB.out | apply below_alloc | apply pw_below_drewN | apply below_drew1) | exact HB.out))) : w.heap.size ≤ gb118)); have n3_ := Aside0.mk ((by rw [hg]; exact (below_size (by repeat (first | (with_reducible first | exact HB.out | apply below_alloc | apply pw_below_drewN | apply below_drew1) | exact HB.out))) : w.heap.size ≤ gb118)); clear HB; have HB := n0_; have BK118 := n1_; have GW118 := n2_; have GE118 := n3_; clear n0_ n1_ n2_ n3_; clear hb hbox hg; have hcz9_0 : w8.cell? ⟨gb118, 0, none⟩ = some (.int .i64 0) := (blk_cell BK118.out 0).trans rfl; have hcz9_1 : w8.cell? ⟨gb118, 1, none⟩ = some (.int .u32 0) := (blk_cell BK118.out 1).trans rfl; have hfz9_0 := blk_frozen BK118.out 0; have hfz9_1 := blk_frozen BK118.out 1))
                go_roundg k1
                case measure => have := HK1.out; omega
                case rel => exact ⟨(wrap64 (x14_1 + 1)), (by first | rfl | (simp; done) | (simp [*]; done)), H', ⟨by have := HK1.out; omega⟩, ⟨by repeat (first | (with_reducible first | exact HB.out | apply below_alloc | apply pw_below_drewN | apply below_drew1 | refine below_set ?_ GE118.out) | exact HB.out)⟩⟩
              · rw [if_neg c7] at H
                have c7b0 : (((rd_T57 l0 x14_1).f0) == 1) = false := beq_eq_false_iff_ne.mpr c7
                have c7b1 : (((rd_T57 l0 x14_1).f0) != 1) = true := bne_iff_ne.mpr c7
                have HC10 := Aside0.mk H
                clear H
                have p117 : 0 ≤ (x14_1 : Int) := of_decide_eq_true (by first | (with_reducible assumption) | assumption)
                have q117 : x14_1 < (l0.length : Int) := of_decide_eq_true (by first | (with_reducible assumption) | assumption)
                obtain ⟨ad117, e117, hx117_0, hx117_1⟩ := at_T57 HR0.out x14_1 p117 q117
                cases e117
                replace hx117_0 := (HB.out.cell (World.block_lt_of_cell? w _ hx117_0)).trans hx117_0
                replace hx117_1 := (HB.out.cell (World.block_lt_of_cell? w _ hx117_1)).trans hx117_1
                replace p117 := eq_true p117
                replace q117 := eq_true q117
                go_upto_if 25 with (first | ((with_reducible refine gate_dst (N := 6) rfl ?_); refine box_event ?hg (N := 6) ?hd (cs := #[.int .i64 0, .int .u32 0]) (t := 57) ?hr ?_; (case hd => rfl); (case hg => rfl); (case hr => first | (go_simp; done) | (go_simp; rfl)); intro gb118 hg w11 hbox hb; have n0_ := Aside0.mk (below_step (by repeat (first | (with_reducible first | exact HB.out | apply below_alloc | apply pw_below_drewN | apply below_drew1) | exact HB.out)) hb); have n1_ := Aside0.mk (hbox); have n2_ := Aside0.mk ((by rw [hg]; exact (below_size (by repeat (first | (with_reducible first | exact HB.out | apply below_alloc | apply pw_below_drewN | apply below_drew1) | exact HB.out))) : w.heap.size ≤ gb118)); have n3_ := Aside0.mk ((by rw [hg]; exact (below_size (by repeat (first | (with_reducible first | exact HB.out | apply below_alloc | apply pw_below_drewN | apply below_drew1) | exact HB.out))) : w.heap.size ≤ gb118)); clear HB; have HB := n0_; have BK118 := n1_; have GW118 := n2_; have GE118 := n3_; clear n0_ n1_ n2_ n3_; clear hb hbox hg; have hcz12_0 : w11.cell? ⟨gb118, 0, none⟩ = some (.int .i64 0) := (blk_cell BK118.out 0).trans rfl; have hcz12_1 : w11.cell? ⟨gb118, 1, none⟩ = some (.int .u32 0) := (blk_cell BK118.out 1).trans rfl; have hfz12_0 := blk_frozen BK118.out 0; have hfz12_1 := blk_frozen BK118.out 1))
                (try simp only [Act.put, List.setIfInBounds_toArray, List.set_cons_zero, List.set_cons_succ])
                go_cut [25] (fun v25 wc => ∃ (kq : Nat) (x25_9 : Bool), v25 = .bool x25_9 ∧ Aside0 (dict_Sound.j1 kq l0 a1 false (wrap64 ((rd_T57 l0 x14_1).f1)) l0 (l0.length : Int) x14_1 ((rd_T57 l0 x14_1).f0) x25_9 = some r) ∧ Aside0 (kq ≤ k1) ∧ Aside0 (wc.heap[gb118]? = some (.cells #[.int .i64 ((rd_T57 l0 x14_1).f0), .int .u32 ((rd_T57 l0 x14_1).f1)] 57 (0, 0))) ∧ Aside0 (Below w.heap.size w wc))
                case first =>
                  have H := HC10.out
                  clear HC10
                  by_cases c13 : ((rd_T57 l0 x14_1).f0) = 2
                  · rw [if_pos c13] at H
                    have c13b0 : (((rd_T57 l0 x14_1).f0) == 2) = true := beq_iff_eq.mpr c13
                    have c13b1 : (((rd_T57 l0 x14_1).f0) != 2) = false := bne_eq_false_iff_eq.mpr c13
                    clear c13
                    (first | rw [c13b0] | (simp only [i64_w, i32_w]; rw [c13b0]) | skip)
                    have H' := Aside0.mk H
                    clear H
                    go_wp2
                    go_meet
                    case rel => exact ⟨_, ((((rd_T57 l0 x14_1).f0) == 2)), (by first | rfl | (simp; done) | (simp [*]; done)), H', ⟨by have := HK1.out; first | omega | exact Nat.le_refl _⟩, ⟨by (with_reducible repeat (first | refine blk_drewN ?_ _ | refine blk_drew ?_ | refine blk_alloc ?_ _)); refine blk_put (cs := #[.int .i64 ((rd_T57 l0 x14_1).f0), .int .u32 0]) ?_ 1 _ rfl; (with_reducible repeat (first | refine blk_drewN ?_ _ | refine blk_drew ?_ | refine blk_alloc ?_ _)); refine blk_put (cs := #[.int .i64 0, .int .u32 0]) ?_ 0 _ rfl; (with_reducible repeat (first | refine blk_drewN ?_ _ | refine blk_drew ?_ | refine blk_alloc ?_ _)); exact BK118.out⟩, ⟨by repeat (first | (with_reducible first | exact HB.out | apply below_alloc | apply pw_below_drewN | apply below_drew1 | refine below_set ?_ GE118.out) | exact HB.out)⟩⟩
                  · rw [if_neg c13] at H
                    have c13b0 : (((rd_T57 l0 x14_1).f0) == 2) = false := beq_eq_false_iff_ne.mpr c13
                    have c13b1 : (((rd_T57 l0 x14_1).f0) != 2) = true := bne_iff_ne.mpr c13
                    (first | rw [c13b0] | (simp only [i64_w, i32_w]; rw [c13b0]) | skip)
                    have H' := Aside0.mk H
                    clear H
                    go_wp2
                    go_meet
                    case rel => exact ⟨_, ((((rd_T57 l0 x14_1).f0) == 13)), (by first | rfl | (simp; done) | (simp [*]; done)), H', ⟨by have := HK1.out; first | omega | exact Nat.le_refl _⟩, ⟨by (with_reducible repeat (first | refine blk_drewN ?_ _ | refine blk_drew ?_ | refine blk_alloc ?_ _)); refine blk_put (cs := #[.int .i64 ((rd_T57 l0 x14_1).f0), .int .u32 0]) ?_ 1 _ rfl; (with_reducible repeat (first | refine blk_drewN ?_ _ | refine blk_drew ?_ | refine blk_alloc ?_ _)); refine blk_put (cs := #[.int .i64 0, .int .u32 0]) ?_ 0 _ rfl; (with_reducible repeat (first | refine blk_drewN ?_ _ | refine blk_drew ?_ | refine blk_alloc ?_ _)); exact BK118.out⟩, ⟨by repeat (first | (with_reducible first | exact HB.out | apply below_alloc | apply pw_below_drewN | apply below_drew1 | refine below_set ?_ GE118.out) | exact HB.out)⟩⟩
                case rest =>
                  clear HC10
                  try clear c1
                  try clear p1
                  try clear q1
                  try clear hx1
                  try clear p2
                  try clear c3
                  try clear c3b0
                  try clear c3b1
                  try clear c4
                  try clear c4b0
                  try clear c5
                  try clear c5b0
                  try clear c6
                  try clear c6b0
                  try clear p6
                  try clear c7
                  try clear c7b0
                  try clear c7b1
                  try clear c10
                  try clear p11
                  try clear q11
                  try clear hx11
                  try clear c13
                  try clear c13b0
                  try clear c13b1
                  try clear hcz12_0
                  try clear hcz12_1
                  try clear hcz9_0
                  try clear hcz9_1
                  try clear hfz12_0
                  try clear hfz12_1
                  try clear hfz9_0
                  try clear hfz9_1
                  try clear hx117_0
                  try clear hx117_1
                  try clear p117
                  try clear p2
                  try clear q117
                  obtain ⟨kq, x25_9, rfl, HA, HJ9, BK118, HB⟩ := hcut
                  cases kq with
                  | zero => exact absurd HA.out (by simp [dict_Sound.j1])
                  | succ kj9 =>
                    have H := HA.out
                    clear HA
                    simp only [dict_Sound.j1] at H
                    by_cases c14 : x25_9 = true
                    · subst c14
                      have H1 : (if (wrap64 ((rd_T57 l0 x14_1).f1)) < a1 then (dict_Sound.l0 kj9 l0 a1 l0 (l0.length : Int) (wrap64 (x14_1 + 1))) else (some false)) = some r := by rw [if_pos rfl] at H; exact H
                      clear H
                      have H := H1
                      clear H1
                      by_cases c15 : (wrap64 ((rd_T57 l0 x14_1).f1)) < a1
                      · rw [if_pos c15] at H
                        have c15b0 : decide ((wrap64 ((rd_T57 l0 x14_1).f1)) < a1) = true := decide_eq_true c15
                        clear c15
                        have H' := Aside0.mk H
                        clear H
                        go_wp2
                        go_roundg kj9
                        case measure => have := HK1.out; have := HJ9.out; omega
                        case rel => exact ⟨(wrap64 (x14_1 + 1)), (by first | rfl | (simp; done) | (simp [*]; done)), H', ⟨by have := HK1.out; have := HJ9.out; omega⟩, ⟨by repeat (first | (with_reducible first | exact HB.out | apply below_alloc | apply pw_below_drewN | apply below_drew1 | refine below_set ?_ GE118.out) | exact HB.out)⟩⟩
                      · rw [if_neg c15] at H
                        have c15b0 : decide ((wrap64 ((rd_T57 l0 x14_1).f1)) < a1) = false := decide_eq_false c15
                        clear c15
                        obtain rfl := Option.some.inj H
                        go_wp2
                        go_ret
                        exact ⟨by first | rfl | (simp [errW_none, errW_some] <;> rfl) | (simp [*, errW_none, errW_some] <;> rfl), by repeat (first | (with_reducible first | exact HB.out | apply below_alloc | apply pw_below_drewN | apply below_drew1 | refine below_set ?_ GE118.out) | exact HB.out)⟩
                    · replace c14 := Bool.eq_false_iff.mpr c14
                      subst c14
                      have H1 : (if ((rd_T57 l0 x14_1).f0) = 11 then (dict_Sound.j2 kj9 l0 a1 false (wrap64 ((rd_T57 l0 x14_1).f1)) l0 (l0.length : Int) x14_1 ((rd_T57 l0 x14_1).f0) (((rd_T57 l0 x14_1).f0) == 11)) else (dict_Sound.j2 kj9 l0 a1 false (wrap64 ((rd_T57 l0 x14_1).f1)) l0 (l0.length : Int) x14_1 ((rd_T57 l0 x14_1).f0) (((rd_T57 l0 x14_1).f0) == 12))) = some r := by rw [if_neg (show ¬ (false = true) by decide)] at H; exact H
                      clear H
                      have H := H1
                      clear H1
                      have HC16 := Aside0.mk H
                      clear H
                      go_upto_if 31 with (fail)
                      go_cut [31] (fun v31 wc => ∃ (kq : Nat) (x31_15 : Bool), v31 = .bool x31_15 ∧ Aside0 (dict_Sound.j2 kq l0 a1 false (wrap64 ((rd_T57 l0 x14_1).f1)) l0 (l0.length : Int) x14_1 ((rd_T57 l0 x14_1).f0) x31_15 = some r) ∧ Aside0 (kq ≤ kj9) ∧ Aside0 (wc.heap[gb118]? = some (.cells #[.int .i64 ((rd_T57 l0 x14_1).f0), .int .u32 ((rd_T57 l0 x14_1).f1)] 57 (0, 0))) ∧ Aside0 (Below w.heap.size w wc))
                      case first =>
                        have H := HC16.out
                        clear HC16
                        by_cases c17 : ((rd_T57 l0 x14_1).f0) = 11
                        · rw [if_pos c17] at H
                          have c17b0 : (((rd_T57 l0 x14_1).f0) == 11) = true := beq_iff_eq.mpr c17
                          have c17b1 : (((rd_T57 l0 x14_1).f0) != 11) = false := bne_eq_false_iff_eq.mpr c17
                          clear c17
                          (first | rw [c17b0] | (simp only [i64_w, i32_w]; rw [c17b0]) | skip)
                          have H' := Aside0.mk H
                          clear H
                          go_wp2
                          go_meet
                          case rel => exact ⟨_, ((((rd_T57 l0 x14_1).f0) == 11)), (by first | rfl | (simp; done) | (simp [*]; done)), H', ⟨by have := HK1.out; have := HJ9.out; first | omega | exact Nat.le_refl _⟩, ⟨by (with_reducible repeat (first | refine blk_drewN ?_ _ | refine blk_drew ?_ | refine blk_alloc ?_ _)); exact BK118.out⟩, ⟨by repeat (first | (with_reducible first | exact HB.out | apply below_alloc | apply pw_below_drewN | apply below_drew1 | refine below_set ?_ GE118.out) | exact HB.out)⟩⟩
                        · rw [if_neg c17] at H
                          have c17b0 : (((rd_T57 l0 x14_1).f0) == 11) = false := beq_eq_false_iff_ne.mpr c17
                          have c17b1 : (((rd_T57 l0 x14_1).f0) != 11) = true := bne_iff_ne.mpr c17
                          (first | rw [c17b0] | (simp only [i64_w, i32_w]; rw [c17b0]) | skip)
                          have H' := Aside0.mk H
                          clear H
                          go_wp2
                          go_meet
                          case rel => exact ⟨_, ((((rd_T57 l0 x14_1).f0) == 12)), (by first | rfl | (simp; done) | (simp [*]; done)), H', ⟨by have := HK1.out; have := HJ9.out; first | omega | exact Nat.le_refl _⟩, ⟨by (with_reducible repeat (first | refine blk_drewN ?_ _ | refine blk_drew ?_ | refine blk_alloc ?_ _)); exact BK118.out⟩, ⟨by repeat (first | (with_reducible first | exact HB.out | apply below_alloc | apply pw_below_drewN | apply below_drew1 | refine below_set ?_ GE118.out) | exact HB.out)⟩⟩
                      case rest =>
                        clear HC16
                        try clear c1
                        try clear p1
                        try clear q1
                        try clear hx1
                        try clear p2
                        try clear c3
                        try clear c3b0
                        try clear c3b1
                        try clear c4
                        try clear c4b0
                        try clear c5
                        try clear c5b0
                        try clear c6
                        try clear c6b0
                        try clear p6
                        try clear c7
                        try clear c7b0
                        try clear c7b1
                        try clear c10
                        try clear p11
                        try clear q11
                        try clear hx11
                        try clear c13
                        try clear c13b0
                        try clear c13b1
                        try clear c14
                        try clear c15
                        try clear c15b0
                        try clear c17
                        try clear c17b0
                        try clear c17b1
                        try clear hcz12_0
                        try clear hcz12_1
                        try clear hcz9_0
                        try clear hcz9_1
                        try clear hfz12_0
                        try clear hfz12_1
                        try clear hfz9_0
                        try clear hfz9_1
                        try clear hx117_0
                        try clear hx117_1
                        try clear p1
                        try clear p11
                        try clear p117
                        try clear p2
                        try clear p6
                        try clear q1
                        try clear q11
                        try clear q117
                        obtain ⟨kq, x31_15, rfl, HA, HJ15, BK118, HB⟩ := hcut
                        cases kq with
                        | zero => exact absurd HA.out (by simp [dict_Sound.j2])
                        | succ kj15 =>
                          have H := HA.out
                          clear HA
                          simp only [dict_Sound.j2] at H
                          by_cases c18 : x31_15 = true
                          · subst c18
                            have H1 : (if (wrap64 ((rd_T57 l0 x14_1).f1)) = 0 then (dict_Sound.l0 kj15 l0 a1 l0 (l0.length : Int) (wrap64 (x14_1 + 1))) else (some false)) = some r := by rw [if_pos rfl] at H; exact H
                            clear H
                            have H := H1
                            clear H1
                            by_cases c19 : (wrap64 ((rd_T57 l0 x14_1).f1)) = 0
                            · rw [if_pos c19] at H
                              have c19b0 : ((wrap64 ((rd_T57 l0 x14_1).f1)) == 0) = true := beq_iff_eq.mpr c19
                              have c19b1 : ((wrap64 ((rd_T57 l0 x14_1).f1)) != 0) = false := bne_eq_false_iff_eq.mpr c19
                              clear c19
                              have H' := Aside0.mk H
                              clear H
                              go_wp2
                              go_roundg kj15
                              case measure => have := HK1.out; have := HJ9.out; have := HJ15.out; omega
                              case rel => exact ⟨(wrap64 (x14_1 + 1)), (by first | rfl | (simp; done) | (simp [*]; done)), H', ⟨by have := HK1.out; have := HJ9.out; have := HJ15.out; omega⟩, ⟨by repeat (first | (with_reducible first | exact HB.out | apply below_alloc | apply pw_below_drewN | apply below_drew1 | refine below_set ?_ GE118.out) | exact HB.out)⟩⟩
                            · rw [if_neg c19] at H
                              have c19b0 : ((wrap64 ((rd_T57 l0 x14_1).f1)) == 0) = false := beq_eq_false_iff_ne.mpr c19
                              have c19b1 : ((wrap64 ((rd_T57 l0 x14_1).f1)) != 0) = true := bne_iff_ne.mpr c19
                              obtain rfl := Option.some.inj H
                              go_wp2
                              go_ret
                              exact ⟨by first | rfl | (simp [errW_none, errW_some] <;> rfl) | (simp [*, errW_none, errW_some] <;> rfl), by repeat (first | (with_reducible first | exact HB.out | apply below_alloc | apply pw_below_drewN | apply below_drew1 | refine below_set ?_ GE118.out) | exact HB.out)⟩
                          · replace c18 := Bool.eq_false_iff.mpr c18
                            subst c18
                            have H1 : (if ((rd_T57 l0 x14_1).f0) = 3 then (dict_Sound.j3 kj15 l0 a1 false (wrap64 ((rd_T57 l0 x14_1).f1)) l0 (l0.length : Int) x14_1 (((rd_T57 l0 x14_1).f0) == 3)) else (if ((rd_T57 l0 x14_1).f0) = 4 then (dict_Sound.j3 kj15 l0 a1 false (wrap64 ((rd_T57 l0 x14_1).f1)) l0 (l0.length : Int) x14_1 (((rd_T57 l0 x14_1).f0) == 4)) else (if ((rd_T57 l0 x14_1).f0) = 5 then (dict_Sound.j3 kj15 l0 a1 false (wrap64 ((rd_T57 l0 x14_1).f1)) l0 (l0.length : Int) x14_1 (((rd_T57 l0 x14_1).f0) == 5)) else (if ((rd_T57 l0 x14_1).f0) = 6 then (dict_Sound.j3 kj15 l0 a1 false (wrap64 ((rd_T57 l0 x14_1).f1)) l0 (l0.length : Int) x14_1 (((rd_T57 l0 x14_1).f0) == 6)) else (if ((rd_T57 l0 x14_1).f0) = 7 then (dict_Sound.j3 kj15 l0 a1 false (wrap64 ((rd_T57 l0 x14_1).f1)) l0 (l0.length : Int) x14_1 (((rd_T57 l0 x14_1).f0) == 7)) else (if ((rd_T57 l0 x14_1).f0) = 8 then (dict_Sound.j3 kj15 l0 a1 false (wrap64 ((rd_T57 l0 x14_1).f1)) l0 (l0.length : Int) x14_1 (((rd_T57 l0 x14_1).f0) == 8)) else (if ((rd_T57 l0 x14_1).f0) = 9 then (dict_Sound.j3 kj15 l0 a1 false (wrap64 ((rd_T57 l0 x14_1).f1)) l0 (l0.length : Int) x14_1 (((rd_T57 l0 x14_1).f0) == 9)) else (dict_Sound.j3 kj15 l0 a1 false (wrap64 ((rd_T57 l0 x14_1).f1)) l0 (l0.length : Int) x14_1 (((rd_T57 l0 x14_1).f0) == 10))))))))) = some r := by rw [if_neg (show ¬ (false = true) by decide)] at H; exact H
                            clear H
                            have H := H1
                            clear H1
                            have HC20 := Aside0.mk H
                            clear H
                            go_upto_if 36 with (fail)
                            go_cut [36] (fun v36 wc => ∃ (kq : Nat) (x36_19 : Bool), v36 = .bool x36_19 ∧ Aside0 (dict_Sound.j3 kq l0 a1 false (wrap64 ((rd_T57 l0 x14_1).f1)) l0 (l0.length : Int) x14_1 x36_19 = some r) ∧ Aside0 (kq ≤ kj15) ∧ Aside0 (wc.heap[gb118]? = some (.cells #[.int .i64 ((rd_T57 l0 x14_1).f0), .int .u32 ((rd_T57 l0 x14_1).f1)] 57 (0, 0))) ∧ Aside0 (Below w.heap.size w wc))
                            case first =>
                              have H := HC20.out
                              clear HC20
                              by_cases c21 : ((rd_T57 l0 x14_1).f0) = 3
                              · rw [if_pos c21] at H
                                have c21b0 : (((rd_T57 l0 x14_1).f0) == 3) = true := beq_iff_eq.mpr c21
                                have c21b1 : (((rd_T57 l0 x14_1).f0) != 3) = false := bne_eq_false_iff_eq.mpr c21
                                clear c21
                                (first | rw [c21b0] | (simp only [i64_w, i32_w]; rw [c21b0]) | skip)
                                have H' := Aside0.mk H
                                clear H
                                go_wp2
                                go_meet
                                case rel => exact ⟨_, ((((rd_T57 l0 x14_1).f0) == 3)), (by first | rfl | (simp; done) | (simp [*]; done)), H', ⟨by have := HK1.out; have := HJ9.out; have := HJ15.out; first | omega | exact Nat.le_refl _⟩, ⟨by (with_reducible repeat (first | refine blk_drewN ?_ _ | refine blk_drew ?_ | refine blk_alloc ?_ _)); exact BK118.out⟩, ⟨by repeat (first | (with_reducible first | exact HB.out | apply below_alloc | apply pw_below_drewN | apply below_drew1 | refine below_set ?_ GE118.out) | exact HB.out)⟩⟩
                              · rw [if_neg c21] at H
                                have c21b0 : (((rd_T57 l0 x14_1).f0) == 3) = false := beq_eq_false_iff_ne.mpr c21
                                have c21b1 : (((rd_T57 l0 x14_1).f0) != 3) = true := bne_iff_ne.mpr c21
                                (first | rw [c21b0] | (simp only [i64_w, i32_w]; rw [c21b0]) | skip)
                                by_cases c22 : ((rd_T57 l0 x14_1).f0) = 4
                                · rw [if_pos c22] at H
                                  have c22b0 : (((rd_T57 l0 x14_1).f0) == 4) = true := beq_iff_eq.mpr c22
                                  have c22b1 : (((rd_T57 l0 x14_1).f0) != 4) = false := bne_eq_false_iff_eq.mpr c22
                                  clear c22
                                  have H' := Aside0.mk H
                                  clear H
                                  go_wp2
                                  go_meet
                                  case rel => exact ⟨_, ((((rd_T57 l0 x14_1).f0) == 4)), (by first | rfl | (simp; done) | (simp [*]; done)), H', ⟨by have := HK1.out; have := HJ9.out; have := HJ15.out; first | omega | exact Nat.le_refl _⟩, ⟨by (with_reducible repeat (first | refine blk_drewN ?_ _ | refine blk_drew ?_ | refine blk_alloc ?_ _)); exact BK118.out⟩, ⟨by repeat (first | (with_reducible first | exact HB.out | apply below_alloc | apply pw_below_drewN | apply below_drew1 | refine below_set ?_ GE118.out) | exact HB.out)⟩⟩
                                · rw [if_neg c22] at H
                                  have c22b0 : (((rd_T57 l0 x14_1).f0) == 4) = false := beq_eq_false_iff_ne.mpr c22
                                  have c22b1 : (((rd_T57 l0 x14_1).f0) != 4) = true := bne_iff_ne.mpr c22
                                  by_cases c23 : ((rd_T57 l0 x14_1).f0) = 5
                                  · rw [if_pos c23] at H
                                    have c23b0 : (((rd_T57 l0 x14_1).f0) == 5) = true := beq_iff_eq.mpr c23
                                    have c23b1 : (((rd_T57 l0 x14_1).f0) != 5) = false := bne_eq_false_iff_eq.mpr c23
                                    clear c23
                                    have H' := Aside0.mk H
                                    clear H
                                    go_wp2
                                    go_meet
                                    case rel => exact ⟨_, ((((rd_T57 l0 x14_1).f0) == 5)), (by first | rfl | (simp; done) | (simp [*]; done)), H', ⟨by have := HK1.out; have := HJ9.out; have := HJ15.out; first | omega | exact Nat.le_refl _⟩, ⟨by (with_reducible repeat (first | refine blk_drewN ?_ _ | refine blk_drew ?_ | refine blk_alloc ?_ _)); exact BK118.out⟩, ⟨by repeat (first | (with_reducible first | exact HB.out | apply below_alloc | apply pw_below_drewN | apply below_drew1 | refine below_set ?_ GE118.out) | exact HB.out)⟩⟩
                                  · rw [if_neg c23] at H
                                    have c23b0 : (((rd_T57 l0 x14_1).f0) == 5) = false := beq_eq_false_iff_ne.mpr c23
                                    have c23b1 : (((rd_T57 l0 x14_1).f0) != 5) = true := bne_iff_ne.mpr c23
                                    by_cases c24 : ((rd_T57 l0 x14_1).f0) = 6
                                    · rw [if_pos c24] at H
                                      have c24b0 : (((rd_T57 l0 x14_1).f0) == 6) = true := beq_iff_eq.mpr c24
                                      have c24b1 : (((rd_T57 l0 x14_1).f0) != 6) = false := bne_eq_false_iff_eq.mpr c24
                                      clear c24
                                      have H' := Aside0.mk H
                                      clear H
                                      go_wp2
                                      go_meet
                                      case rel => exact ⟨_, ((((rd_T57 l0 x14_1).f0) == 6)), (by first | rfl | (simp; done) | (simp [*]; done)), H', ⟨by have := HK1.out; have := HJ9.out; have := HJ15.out; first | omega | exact Nat.le_refl _⟩, ⟨by (with_reducible repeat (first | refine blk_drewN ?_ _ | refine blk_drew ?_ | refine blk_alloc ?_ _)); exact BK118.out⟩, ⟨by repeat (first | (with_reducible first | exact HB.out | apply below_alloc | apply pw_below_drewN | apply below_drew1 | refine below_set ?_ GE118.out) | exact HB.out)⟩⟩
                                    · rw [if_neg c24] at H
                                      have c24b0 : (((rd_T57 l0 x14_1).f0) == 6) = false := beq_eq_false_iff_ne.mpr c24
                                      have c24b1 : (((rd_T57 l0 x14_1).f0) != 6) = true := bne_iff_ne.mpr c24
                                      by_cases c25 : ((rd_T57 l0 x14_1).f0) = 7
                                      · rw [if_pos c25] at H
                                        have c25b0 : (((rd_T57 l0 x14_1).f0) == 7) = true := beq_iff_eq.mpr c25
                                        have c25b1 : (((rd_T57 l0 x14_1).f0) != 7) = false := bne_eq_false_iff_eq.mpr c25
                                        clear c25
                                        have H' := Aside0.mk H
                                        clear H
                                        go_wp2
                                        go_meet
                                        case rel => exact ⟨_, ((((rd_T57 l0 x14_1).f0) == 7)), (by first | rfl | (simp; done) | (simp [*]; done)), H', ⟨by have := HK1.out; have := HJ9.out; have := HJ15.out; first | omega | exact Nat.le_refl _⟩, ⟨by (with_reducible repeat (first | refine blk_drewN ?_ _ | refine blk_drew ?_ | refine blk_alloc ?_ _)); exact BK118.out⟩, ⟨by repeat (first | (with_reducible first | exact HB.out | apply below_alloc | apply pw_below_drewN | apply below_drew1 | refine below_set ?_ GE118.out) | exact HB.out)⟩⟩
                                      · rw [if_neg c25] at H
                                        have c25b0 : (((rd_T57 l0 x14_1).f0) == 7) = false := beq_eq_false_iff_ne.mpr c25
                                        have c25b1 : (((rd_T57 l0 x14_1).f0) != 7) = true := bne_iff_ne.mpr c25
                                        by_cases c26 : ((rd_T57 l0 x14_1).f0) = 8
                                        · rw [if_pos c26] at H
                                          have c26b0 : (((rd_T57 l0 x14_1).f0) == 8) = true := beq_iff_eq.mpr c26
                                          have c26b1 : (((rd_T57 l0 x14_1).f0) != 8) = false := bne_eq_false_iff_eq.mpr c26
                                          clear c26
                                          have H' := Aside0.mk H
                                          clear H
                                          go_wp2
                                          go_meet
                                          case rel => exact ⟨_, ((((rd_T57 l0 x14_1).f0) == 8)), (by first | rfl | (simp; done) | (simp [*]; done)), H', ⟨by have := HK1.out; have := HJ9.out; have := HJ15.out; first | omega | exact Nat.le_refl _⟩, ⟨by (with_reducible repeat (first | refine blk_drewN ?_ _ | refine blk_drew ?_ | refine blk_alloc ?_ _)); exact BK118.out⟩, ⟨by repeat (first | (with_reducible first | exact HB.out | apply below_alloc | apply pw_below_drewN | apply below_drew1 | refine below_set ?_ GE118.out) | exact HB.out)⟩⟩
                                        · rw [if_neg c26] at H
                                          have c26b0 : (((rd_T57 l0 x14_1).f0) == 8) = false := beq_eq_false_iff_ne.mpr c26
                                          have c26b1 : (((rd_T57 l0 x14_1).f0) != 8) = true := bne_iff_ne.mpr c26
                                          by_cases c27 : ((rd_T57 l0 x14_1).f0) = 9
                                          · rw [if_pos c27] at H
                                            have c27b0 : (((rd_T57 l0 x14_1).f0) == 9) = true := beq_iff_eq.mpr c27
                                            have c27b1 : (((rd_T57 l0 x14_1).f0) != 9) = false := bne_eq_false_iff_eq.mpr c27
                                            clear c27
                                            have H' := Aside0.mk H
                                            clear H
                                            go_wp2
                                            go_meet
                                            case rel => exact ⟨_, ((((rd_T57 l0 x14_1).f0) == 9)), (by first | rfl | (simp; done) | (simp [*]; done)), H', ⟨by have := HK1.out; have := HJ9.out; have := HJ15.out; first | omega | exact Nat.le_refl _⟩, ⟨by (with_reducible repeat (first | refine blk_drewN ?_ _ | refine blk_drew ?_ | refine blk_alloc ?_ _)); exact BK118.out⟩, ⟨by repeat (first | (with_reducible first | exact HB.out | apply below_alloc | apply pw_below_drewN | apply below_drew1 | refine below_set ?_ GE118.out) | exact HB.out)⟩⟩
                                          · rw [if_neg c27] at H
                                            have c27b0 : (((rd_T57 l0 x14_1).f0) == 9) = false := beq_eq_false_iff_ne.mpr c27
                                            have c27b1 : (((rd_T57 l0 x14_1).f0) != 9) = true := bne_iff_ne.mpr c27
                                            have H' := Aside0.mk H
                                            clear H
                                            go_wp2
                                            go_meet
                                            case rel => exact ⟨_, ((((rd_T57 l0 x14_1).f0) == 10)), (by first | rfl | (simp; done) | (simp [*]; done)), H', ⟨by have := HK1.out; have := HJ9.out; have := HJ15.out; first | omega | exact Nat.le_refl _⟩, ⟨by (with_reducible repeat (first | refine blk_drewN ?_ _ | refine blk_drew ?_ | refine blk_alloc ?_ _)); exact BK118.out⟩, ⟨by repeat (first | (with_reducible first | exact HB.out | apply below_alloc | apply pw_below_drewN | apply below_drew1 | refine below_set ?_ GE118.out) | exact HB.out)⟩⟩
                            case rest =>
                              clear HC20
                              try clear c1
                              try clear p1
                              try clear q1
                              try clear hx1
                              try clear c2
                              try clear p2
                              try clear c3
                              try clear c3b0
                              try clear c3b1
                              try clear c4
                              try clear c4b0
                              try clear c5
                              try clear c5b0
                              try clear c6
                              try clear c6b0
                              try clear p6
                              try clear c7
                              try clear c7b0
                              try clear c7b1
                              try clear c10
                              try clear p11
                              try clear q11
                              try clear hx11
                              try clear c13
                              try clear c13b0
                              try clear c13b1
                              try clear c14
                              try clear c15
                              try clear c15b0
                              try clear c17
                              try clear c17b0
                              try clear c17b1
                              try clear c18
                              try clear c19
                              try clear c19b0
                              try clear c19b1
                              try clear c21
                              try clear c21b0
                              try clear c21b1
                              try clear c22
                              try clear c22b0
                              try clear c22b1
                              try clear c23
                              try clear c23b0
                              try clear c23b1
                              try clear c24
                              try clear c24b0
                              try clear c24b1
                              try clear c25
                              try clear c25b0
                              try clear c25b1
                              try clear c26
                              try clear c26b0
                              try clear c26b1
                              try clear c27
                              try clear c27b0
                              try clear c27b1
                              try clear hcz12_0
                              try clear hcz12_1
                              try clear hcz9_0
                              try clear hcz9_1
                              try clear hfz12_0
                              try clear hfz12_1
                              try clear hfz9_0
                              try clear hfz9_1
                              try clear hx117_0
                              try clear hx117_1
                              try clear p1
                              try clear p11
                              try clear p117
                              try clear p2
                              try clear p6
                              try clear q1
                              try clear q11
                              try clear q117
                              obtain ⟨kq, x36_19, rfl, HA, HJ19, BK118, HB⟩ := hcut
                              cases kq with
                              | zero => exact absurd HA.out (by simp [dict_Sound.j3])
                              | succ kj19 =>
                                have H := HA.out
                                clear HA
                                simp only [dict_Sound.j3] at H
                                by_cases c28 : x36_19 = true
                                · subst c28
                                  have H1 : (if ((wrap64 ((rd_T57 l0 x14_1).f1)) ≤ (l0.length : Int)) then (dict_Sound.l0 kj19 l0 a1 l0 (l0.length : Int) (wrap64 (x14_1 + 1))) else (some false)) = some r := by rw [if_pos rfl] at H; exact H
                                  clear H
                                  have H := H1
                                  clear H1
                                  by_cases c29 : ((wrap64 ((rd_T57 l0 x14_1).f1)) ≤ (l0.length : Int))
                                  · rw [if_pos c29] at H
                                    have c29b0 : decide ((wrap64 ((rd_T57 l0 x14_1).f1)) ≤ (l0.length : Int)) = true := decide_eq_true c29
                                    clear c29
                                    have H' := Aside0.mk H
                                    clear H
                                    go_wp2
                                    go_roundg kj19
                                    case measure => have := HK1.out; have := HJ9.out; have := HJ15.out; have := HJ19.out; omega
                                    case rel => exact ⟨(wrap64 (x14_1 + 1)), (by first | rfl | (simp; done) | (simp [*]; done)), H', ⟨by have := HK1.out; have := HJ9.out; have := HJ15.out; have := HJ19.out; omega⟩, ⟨by repeat (first | (with_reducible first | exact HB.out | apply below_alloc | apply pw_below_drewN | apply below_drew1 | refine below_set ?_ GE118.out) | exact HB.out)⟩⟩
                                  · rw [if_neg c29] at H
                                    have c29b0 : decide ((wrap64 ((rd_T57 l0 x14_1).f1)) ≤ (l0.length : Int)) = false := decide_eq_false c29
                                    clear c29
                                    obtain rfl := Option.some.inj H
                                    go_wp2
                                    go_ret
                                    exact ⟨by first | rfl | (simp [errW_none, errW_some] <;> rfl) | (simp [*, errW_none, errW_some] <;> rfl), by repeat (first | (with_reducible first | exact HB.out | apply below_alloc | apply pw_below_drewN | apply below_drew1 | refine below_set ?_ GE118.out) | exact HB.out)⟩
                                · replace c28 := Bool.eq_false_iff.mpr c28
                                  subst c28
                                  have H1 : (if false = true then (dict_Sound.l0 kj19 l0 a1 l0 (l0.length : Int) (wrap64 (x14_1 + 1))) else (some false)) = some r := by rw [if_neg (show ¬ (false = true) by decide)] at H; exact H
                                  clear H
                                  have H := H1
                                  clear H1
                                  by_cases c30 : false = true
                                  · exact absurd c30 (by decide)
                                  · replace c30 := Bool.eq_false_iff.mpr c30
                                    have H1 : (some false) = some r := by rw [if_neg (show ¬ (false = true) by decide)] at H; exact H
                                    clear H
                                    have H := H1
                                    clear H1
                                    obtain rfl := Option.some.inj H
                                    go_wp2
                                    go_ret
                                    exact ⟨by first | rfl | (simp [errW_none, errW_some] <;> rfl) | (simp [*, errW_none, errW_some] <;> rfl), by repeat (first | (with_reducible first | exact HB.out | apply below_alloc | apply pw_below_drewN | apply below_drew1 | refine below_set ?_ GE118.out) | exact HB.out)⟩
            · rw [if_neg c6] at H
              exact absurd H (by simp)
          · rw [if_neg c5] at H
            exact absurd H (by simp)
        · rw [if_neg c4] at H
          have c4b0 : decide (x14_1 < (l0.length : Int)) = false := decide_eq_false c4
          clear c4
          obtain rfl := Option.some.inj H
          go_wp2
          go_ret
          exact ⟨by first | rfl | (simp [errW_none, errW_some] <;> rfl) | (simp [*, errW_none, errW_some] <;> rfl), by repeat (first | (with_reducible first | exact HB.out | apply below_alloc | apply pw_below_drewN | apply below_drew1) | exact HB.out)⟩
end Go.Proofs.Ytpalbpakeokimaa.PK
