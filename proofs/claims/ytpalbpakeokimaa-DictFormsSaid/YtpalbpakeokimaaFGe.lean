/- tinder: a part of the proof, joined and pruned by wip/tools/prune.py out of: Ge -/
import Derived.Test.YtpalbpakeokimaaFGf
namespace Go.Proofs.Ytpalbpakeokimaa.PK
set_option linter.unusedVariables false
set_option linter.unusedSimpArgs false
open Go.RowKit Go.Proofs.YtpalbpakeokimaaW.PrintWords Go.Proofs.YtpalbpakeokimaaW.PrintLast Go.Proofs.YtpalbpakeokimaaW.PrintMore
open Go.Shelf
attribute [local go_sem] Oper.semAt_some
def primIdx (code : Int) : Int × Bool := match (List.finRange 111).find? (fun i => (primAt i.val).f1 == code) with | some i => ((i.val : Int), true) | none => (0, false)
def codeF (codes : List Int) (code : Int) : Int × Bool := if code < 2048 then primIdx code else if code - 2048 < (codes.length : Int) ∧ ¬ rd codes (code - 2048) = -1 then (rd codes (code - 2048), true) else (0, false)
def dict_Code.f (l0_0 : List Int) (l0_1 : List Int) (l0_2 : List (S45)) (l0_3 : List Int) (a0_4 : Int) (l0_5 : List (S92)) (a0_6 : Int) (l0_7 : List (S80)) (a0_8 : Int) (a0_9 : ByteArray) (a1 : Int) : Option (Int × Bool) := if a1 ≤ 9223372036854775807 then some (codeF l0_3 a1) else none
set_option maxHeartbeats 4000000 in
set_option maxRecDepth 100000 in
theorem dict_Code.calls (A0_0 : Option Addr) (c0_0 : Nat) (l0_0 : List Int) (A0_1 : Option Addr) (c0_1 : Nat) (l0_1 : List Int) (A0_2 : Option Addr) (c0_2 : Nat) (l0_2 : List (S45)) (A0_3 : Option Addr) (c0_3 : Nat) (l0_3 : List Int) (a0_4 : Int) (A0_5 : Option Addr) (c0_5 : Nat) (l0_5 : List (S92)) (a0_6 : Int) (A0_7 : Option Addr) (c0_7 : Nat) (l0_7 : List (S80)) (a0_8 : Int) (a0_9 : ByteArray) (a1 : Int) (r1 : Int) (r2 : Bool) (w : World) (hr0_0 : Kd.C (Kd.int .u32) w A0_0 l0_0.length l0_0) (hc0_0 : l0_0.length ≤ c0_0) (hr0_1 : Kd.C (Kd.int .u8) w A0_1 l0_1.length l0_1) (hc0_1 : l0_1.length ≤ c0_1) (hr0_2 : Kd.C k45 w A0_2 l0_2.length l0_2) (hc0_2 : l0_2.length ≤ c0_2) (hr0_3 : Kd.C (Kd.int .i64) w A0_3 l0_3.length l0_3) (hc0_3 : l0_3.length ≤ c0_3) (hr0_5 : Kd.C k92 w A0_5 l0_5.length l0_5) (hc0_5 : l0_5.length ≤ c0_5) (hr0_7 : Kd.C k80 w A0_7 l0_7.length l0_7) (hc0_7 : l0_7.length ≤ c0_7) (h : dict_Code.f l0_0 l0_1 l0_2 l0_3 a0_4 l0_5 a0_6 l0_7 a0_8 a0_9 a1 = some (r1, r2)) :
    Calls Try.prog 18 #[.agg #[.slice A0_0 l0_0.length c0_0, .slice A0_1 l0_1.length c0_1, .slice A0_2 l0_2.length c0_2, .slice A0_3 l0_3.length c0_3, .int .u32 a0_4, .slice A0_5 l0_5.length c0_5, .int .i64 a0_6, .slice A0_7 l0_7.length c0_7, .int .i64 a0_8, .string a0_9], .int .i64 a1] w fun e w' => e = .returned (.tuple #[.int .i64 r1, .bool r2]) ∧ Below w.heap.size w w' := by
  unfold dict_Code.f at h
  by_cases hmax : a1 ≤ 9223372036854775807
  · rw [if_pos hmax] at h
    have hv : codeF l0_3 a1 = (r1, r2) := Option.some.inj h
    clear hr0_0 hr0_1 hr0_2 hr0_5 hr0_7 hc0_0 hc0_1 hc0_2 hc0_5 hc0_7 h
    by_cases hlo : a1 < 2048
    · have hv2 : primIdx a1 = (r1, r2) := by rw [← hv]; unfold codeF; rw [if_pos hlo]
      have d1 : decide (a1 < 2048) = true := decide_eq_true hlo
      have HV := Aside0.mk hv2
      clear hv hv2 hlo hr0_3 hc0_3
      refine (callsIn_wide (n := 3)).1 ?_
      refine callsIn_of_wp_marks Try.func18 rfl trivial ?_ rfl
      simp only [Try.ntmps18, List.size_toArray, List.length_cons, List.length_nil, Nat.reduceAdd, Nat.reduceSub, Array.replicate_succ, Array.replicate_zero, List.push_toArray, List.append_toArray, List.nil_append, List.cons_append]
      gi_wp2
      obtain ⟨w4, hw4⟩ : ∃ w4, ((((w.alloc (.cells #[.slice A0_0 l0_0.length c0_0, .slice A0_1 l0_1.length c0_1, .slice A0_2 l0_2.length c0_2, .slice A0_3 l0_3.length c0_3, .int .u32 a0_4, .slice A0_5 l0_5.length c0_5, .int .i64 a0_6, .slice A0_7 l0_7.length c0_7, .int .i64 a0_8, .string a0_9] 35)).alloc (.cells #[.int .i64 a1] 3)).alloc (.cells #[.int .i64 0] 3)).alloc (.cells #[.bool false] 4)) = w4 := ⟨_, rfl⟩
      rw [hw4]
      have hsz : w4.heap.size = w.heap.size + 4 := by rw [← hw4]; simp
      have hbel : Below w.heap.size w w4 := by rw [← hw4]; exact below_alloc (below_alloc (below_alloc (below_alloc (Below.refl _ _) _) _) _) _
      have k1 : w4.heap[w.heap.size + 1]? = some (.cells #[.int .i64 a1] 3 (0, 0)) := by rw [← hw4]; exact heap_old (heap_old (heap_new (by simp)))
      have k2 : w4.heap[w.heap.size + 1 + 1]? = some (.cells #[.int .i64 0] 3 (0, 0)) := by rw [← hw4]; exact heap_old (heap_new (by simp))
      have k3 : w4.heap[w.heap.size + 1 + 1 + 1]? = some (.cells #[.bool false] 4 (0, 0)) := by rw [← hw4]; exact heap_new (by simp)
      clear hw4
      refine wpIn_rangeFunc_ownH rfl (by omega) (gf := 35) (lb := #[]) rfl trivial (enters_of Try.func35 (by kernel_rfl) rfl)
        (prims_stops 2 w.heap.size (by omega) w4) KpT.trans (kpT_b hbel.size) (Below.refl _ _) (fun _ => rfl)
        (fun pre W => ((∀ i ∈ pre, ((primAt i.val).f1 == a1) = false) ∧ W.heap[w.heap.size + 1]? = some (.cells #[.int .i64 a1] 3 (0, 0)) ∧ W.heap[w.heap.size + 1 + 1]? = some (.cells #[.int .i64 0] 3 (0, 0)) ∧ W.heap[w.heap.size + 1 + 1 + 1]? = some (.cells #[.bool false] 4 (0, 0))) ∧ Below w.heap.size w W)
        (fun c pre W => (∃ i pre', c = .ret ∧ pre = pre' ++ [i] ∧ (∀ j ∈ pre', ((primAt j.val).f1 == a1) = false) ∧ ((primAt i.val).f1 == a1) = true ∧ W.heap[w.heap.size + 1 + 1]? = some (.cells #[.int .i64 (i.val : Int)] 3 (0, 0)) ∧ W.heap[w.heap.size + 1 + 1 + 1]? = some (.cells #[.bool true] 4 (0, 0))) ∧ Below w.heap.size w W)
        (OwnFrom.and (Own.from (fun s A B row hs hg hr => ⟨hs.1, kept_block hs.2.1 hg hr, kept_block hs.2.2.1 hg hr, kept_block hs.2.2.2 hg hr⟩) _) (ownFrom_below (Nat.le_refl _) (by omega)))
        (fun c => OwnFrom.and (Own.from (fun s A B row hs hg hr => by
          obtain ⟨i, pre', h1, h2, h3, h4, h5, h6⟩ := hs
          exact ⟨i, pre', h1, h2, h3, h4, kept_block h5 hg hr, kept_block h6 hg hr⟩) _) (ownFrom_below (Nat.le_refl _) (by omega)))
        ⟨⟨by simp, k1, k2, k3⟩, hbel⟩
        (fun x a' W => ∃ Bx, W.heap[Bx]? = some (.cells #[.string (primAt x.val).f0, .int .i64 (primAt x.val).f1] 64 (0, 0)) ∧ a' = { tmps := #[.agg #[.slice A0_0 l0_0.length c0_0, .slice A0_1 l0_1.length c0_1, .slice A0_2 l0_2.length c0_2, .slice A0_3 l0_3.length c0_3, .int .u32 a0_4, .slice A0_5 l0_5.length c0_5, .int .i64 a0_6, .slice A0_7 l0_7.length c0_7, .int .i64 a0_8, .string a0_9], .int .i64 a1, .pointer (some ⟨w.heap.size, 0, none⟩), .pointer (some ⟨w.heap.size + 1, 0, none⟩), .pointer (some ⟨w.heap.size + 1 + 1, 0, none⟩), .pointer (some ⟨w.heap.size + 1 + 1 + 1, 0, none⟩), .int .i64 (x.val : Int), .pointer (some ⟨Bx, 0, none⟩), .int .i64 a1, .bool true, .int .i64 (x.val : Int), .agg #[.string (primAt x.val).f0, .int .i64 (primAt x.val).f1], undef, undef, undef, undef, undef, undef, undef, undef, undef, undef, undef, undef, undef, undef, undef, undef, undef, undef, undef, undef, undef, undef, undef, undef, undef], defers := [] }) ?hAx ?assign ?body ?done ?stop
      case hAx =>
        intro x a'
        exact Own.from (fun s A B row hs hg hr => by
          obtain ⟨Bx, h2, h3⟩ := hs
          exact ⟨Bx, kept_block h2 hg hr, h3⟩) _
      case assign =>
        intro s pre x W K hI hK
        simp only [primEnc]
        have HK := Aside0.mk hK
        have HI := Aside0.mk hI
        clear hK hI k1 k2 k3
        generalize hy : primAt x.val = y at *
        clear hy
        gi_wp2
        obtain ⟨⟨i1, i2, i3, i4⟩, i5⟩ := HI.out
        refine HK.out _ _ (KeepsFrom.of_below' (below_alloc (Below.refl _ _) _)) (KpT.of_below (below_alloc (Below.refl _ _) _)) ⟨⟨i1, heap_old i2, heap_old i3, heap_old i4⟩, below_alloc i5 _⟩ ⟨W.heap.size, heap_new rfl, rfl⟩
      case body =>
        rintro s pre x a' W hl ⟨r, hr2⟩ ⟨⟨i1, i2, i3, i4⟩, i5⟩ ⟨Bx, hbx, rfl⟩ hlt
        have I1 := Aside0.mk i1
        have I5 := Aside0.mk i5
        have e1 := cell_in (j := 0) i2 rfl
        have e4 := cell_in (j := 1) hbx rfl
        have c3 := cell_in (j := 0) i3 rfl
        have c4 := cell_in (j := 0) i4 rfl
        have f3 := frozen_in (j := 0) i3
        have f4 := frozen_in (j := 0) i4
        have I2 := Aside0.mk i2
        have I3 := Aside0.mk i3
        have I4 := Aside0.mk i4
        clear i1 i2 i3 i4 i5 hbx k1 k2 k3
        generalize hy : primAt x.val = y at *
        have HY := Aside0.mk hy
        clear hy
        cases hpx : (y.f1 == a1) with
        | true =>
          have HPX := Aside0.mk hpx
          gi_wp2
          refine ⟨((KeepsOthers.setCell _ _ _).from _).trans ((KeepsOthers.setCell _ _ _).from _), ⟨x, pre, rfl, rfl, I1.out, by rw [HY.out]; exact HPX.out, Boxed.other (Boxed.set _ I3.out) (by omega) _, Boxed.set _ (Boxed.other I4.out (by omega) _)⟩, ?_⟩
          exact ((I5.out).setCell (p := ⟨w.heap.size + 1 + 1, 0, none⟩) (by simp; omega) _).setCell (p := ⟨w.heap.size + 1 + 1 + 1, 0, none⟩) (by simp; omega) _
        | false =>
          have HPX := Aside0.mk hpx
          gi_wp2
          refine ⟨KeepsFrom.refl _ _, KpT.refl _ _ _, ⟨fun i hi => ?_, I2.out, I3.out, I4.out⟩, I5.out⟩
          rcases List.mem_append.1 hi with hi | hi
          · exact I1.out i hi
          · obtain rfl := List.mem_singleton.1 hi
            rw [HY.out]; exact HPX.out
      case done =>
        rintro D ys W hD rfl ⟨⟨i1, i2, i3, i4⟩, i5⟩ hK
        have hl : (r1, r2) = ((0 : Int), false) := by
          rw [← HV.out]
          unfold primIdx
          rw [List.find?_eq_none.2 (fun x hx => by have := i1 x hx; rw [this]; exact Bool.false_ne_true)]
        have HL := Aside0.mk hl
        have c3 := cell_in (j := 0) i3 rfl
        have c4 := cell_in (j := 0) i4 rfl
        have f3 := frozen_in (j := 0) i3
        have f4 := frozen_in (j := 0) i4
        have I3 := Aside0.mk i3
        have I4 := Aside0.mk i4
        have I5 := Aside0.mk i5
        have HK := Aside0.mk hK
        clear i1 i2 i3 i4 i5 hK k1 k2 k3 hl
        gi_wp2
        obtain ⟨W2, hW2⟩ : ∃ W2, (W.setCell ⟨w.heap.size + 1 + 1, 0, none⟩ (.int .i64 0)).setCell ⟨w.heap.size + 1 + 1 + 1, 0, none⟩ (.bool false) = W2 := ⟨_, rfl⟩
        have hK' : W2.heap[D]? = some (.deferred (some [])) := by rw [← hW2]; exact (KeepsOthers.setCell _ _ _).same D _ ((KeepsOthers.setCell _ _ _).same D _ HK.out rfl) rfl
        have q3 : Boxed W2 (w.heap.size + 1 + 1) 3 (.int .i64 0) := by rw [← hW2]; exact Boxed.other (Boxed.set _ I3.out) (by omega) _
        have q4 : Boxed W2 (w.heap.size + 1 + 1 + 1) 4 (.bool false) := by rw [← hW2]; exact Boxed.set _ (Boxed.other I4.out (by omega) _)
        have q5 : Below w.heap.size w W2 := by rw [← hW2]; exact ((I5.out).setCell (p := ⟨w.heap.size + 1 + 1, 0, none⟩) (by simp; omega) _).setCell (p := ⟨w.heap.size + 1 + 1 + 1, 0, none⟩) (by simp; omega) _
        rw [hW2]
        refine ⟨by simp, .inl ⟨_, _, rfl, run_takeDeferred hK', ?_⟩⟩
        have c5 := cell_kept q3.cell (grownBy_putObj' _ D (.deferred none)) (fun r e => by cases e; exact ⟨_, hK', rfl⟩)
        have c6 := cell_kept q4.cell (grownBy_putObj' _ D (.deferred none)) (fun r e => by cases e; exact ⟨_, hK', rfl⟩)
        obtain ⟨rfl, rfl⟩ := Prod.mk.inj HL.out
        refine ⟨.tuple #[.int .i64 0, .bool false], ?_, rfl, q5.trans (belowK_b (w := w) (Nat.le_refl _) _ D _ _ (by omega) hK' rfl rfl)⟩
        simp [results, Try.f18, go_sem, c5, c6]
      case stop =>
        rintro D c pre W hD hpre ⟨⟨i, pre', rfl, rfl, h3, h4, h5, h6⟩, hB⟩ hK
        have hl : (r1, r2) = ((i.val : Int), true) := by
          rw [← HV.out]
          unfold primIdx
          obtain ⟨suf, hs⟩ := hpre
          rw [← hs, List.find?_append, List.find?_append, List.find?_eq_none.2 (fun x hx => by have := h3 x hx; rw [this]; exact Bool.false_ne_true)]
          simp only [Option.none_or, List.find?_singleton, h4, if_true, Option.some_or]
        have HL := Aside0.mk hl
        have H5 := Aside0.mk h5
        have H6 := Aside0.mk h6
        have HB := Aside0.mk hB
        have HK := Aside0.mk hK
        clear hl h3 h4 h5 h6 hB hK k1 k2 k3 hpre
        gi_wp2
        refine ⟨by simp, .inl ⟨_, _, rfl, run_takeDeferred HK.out, ?_⟩⟩
        have c5 := cell_kept (cell_in (j := 0) H5.out rfl) (grownBy_putObj' _ D (.deferred none)) (fun r e => by cases e; exact ⟨_, HK.out, rfl⟩)
        have c6 := cell_kept (cell_in (j := 0) H6.out rfl) (grownBy_putObj' _ D (.deferred none)) (fun r e => by cases e; exact ⟨_, HK.out, rfl⟩)
        obtain ⟨rfl, rfl⟩ := Prod.mk.inj HL.out
        refine ⟨.tuple #[.int .i64 (i.val : Int), .bool true], ?_, rfl, (HB.out).trans (belowK_b (w := w) (Nat.le_refl _) _ D _ _ (by omega) HK.out rfl rfl)⟩
        simp [results, Try.f18, go_sem, c5, c6]
    · have hge : 2048 ≤ a1 := by omega
      have d1 : decide (a1 < 2048) = false := decide_eq_false hlo
      have hv2 : (if a1 - 2048 < (l0_3.length : Int) ∧ ¬ rd l0_3 (a1 - 2048) = -1 then (rd l0_3 (a1 - 2048), true) else ((0 : Int), false)) = (r1, r2) := by rw [← hv]; unfold codeF; rw [if_neg hlo]
      clear hv
      refine (callsIn_wide (n := 3)).1 ?_
      refine callsIn_of_wp_marks Try.func18 rfl trivial ?_ rfl
      simp only [Try.ntmps18, List.size_toArray, List.length_cons, List.length_nil, Nat.reduceAdd, Nat.reduceSub, Array.replicate_succ, Array.replicate_zero, List.push_toArray, List.append_toArray, List.nil_append, List.cons_append]
      by_cases hlen : a1 - 2048 < (l0_3.length : Int)
      · have d2 : decide (a1 - 2048 < (l0_3.length : Int)) = true := decide_eq_true hlen
        have h0q : 0 ≤ a1 - 2048 := by omega
        have hbw : Below w.heap.size w ((((w.alloc (.cells #[.slice A0_0 l0_0.length c0_0, .slice A0_1 l0_1.length c0_1, .slice A0_2 l0_2.length c0_2, .slice A0_3 l0_3.length c0_3, .int .u32 a0_4, .slice A0_5 l0_5.length c0_5, .int .i64 a0_6, .slice A0_7 l0_7.length c0_7, .int .i64 a0_8, .string a0_9] 35)).alloc (.cells #[.int .i64 (a1 - 2048)] 3)).alloc (.cells #[.int .i64 0] 3)).alloc (.cells #[.bool false] 4)) := below_alloc (below_alloc (below_alloc (below_alloc (Below.refl _ _) _) _) _) _
        obtain ⟨ad, e1, h0⟩ := at_int (Kd.C_below hr0_3 hbw) (a1 - 2048) h0q hlen
        clear hbw
        cases e1
        clear hr0_3
        obtain ⟨y, hy⟩ : ∃ y, rd l0_3 (a1 - 2048) = y := ⟨_, rfl⟩
        rw [hy] at h0 hv2
        clear hy
        by_cases hm : y = -1
        · have d3 : (y != (-1)) = false := bne_eq_false_iff_eq.mpr hm
          have d3b : (y == (-1)) = true := beq_iff_eq.mpr hm
          rw [if_neg (fun c => c.2 hm)] at hv2
          obtain ⟨rfl, rfl⟩ := Prod.mk.inj hv2
          clear hm
          gi_wp2
          refine ⟨.tuple #[.int .i64 0, .bool false], ?_, rfl, by repeat (first | exact Below.refl _ _ | apply below_alloc)⟩
          simp [results, Try.f18, go_sem]
        · have d3 : (y != (-1)) = true := bne_iff_ne.mpr hm
          have d3b : (y == (-1)) = false := beq_eq_false_iff_ne.mpr hm
          rw [if_pos ⟨hlen, hm⟩] at hv2
          obtain ⟨rfl, rfl⟩ := Prod.mk.inj hv2
          clear hm
          gi_wp2
          refine ⟨.tuple #[.int .i64 y, .bool true], ?_, rfl, ?_⟩
          · simp [results, Try.f18, go_sem]
          · repeat (first | exact Below.refl _ _ | apply below_alloc)
      · have d2 : decide (a1 - 2048 < (l0_3.length : Int)) = false := decide_eq_false hlen
        rw [if_neg (fun c => hlen c.1)] at hv2
        obtain ⟨rfl, rfl⟩ := Prod.mk.inj hv2
        clear hlen hlo hr0_3
        gi_wp2
        refine ⟨.tuple #[.int .i64 0, .bool false], ?_, rfl, by repeat (first | exact Below.refl _ _ | apply below_alloc)⟩
        simp [results, Try.f18, go_sem]
  · rw [if_neg hmax] at h
    cases h
end Go.Proofs.Ytpalbpakeokimaa.PK
