/- tinder: a part of the proof, joined and pruned by wip/tools/prune.py out of: Gf -/
import Derived.Test.YtpalbpakeokimaaFGr
import Derived.Shelf.AbstractIn
namespace Go.Proofs.Ytpalbpakeokimaa.PK
set_option linter.unusedVariables false
set_option linter.unusedSimpArgs false
open Go.RowKit Go.Proofs.YtpalbpakeokimaaW.PrintWords Go.Proofs.YtpalbpakeokimaaW.PrintLast Go.Proofs.YtpalbpakeokimaaW.PrintMore
open Go.Shelf
attribute [local go_sem] Oper.semAt_some
theorem below_go {w W W' : World} (h : Below w.heap.size w W) (k : Below W.heap.size W W') : Below w.heap.size w W' := below_then h h.size k
theorem KeepsFrom.of_below' {B : Nat} {W W' : World} (h : Below W.heap.size W W') : KeepsFrom B W W' := ⟨h.size, fun k o _ ho _ => (h.block k (Array.getElem?_eq_some_iff.1 ho).1).trans ho⟩
theorem heap_own {β : Type} (b : Nat) (c : Array Value) (t : TypeId) : Own (fun (_ : β) W => W.heap[b]? = some (.cells c t (0, 0))) := fun s X Y row hs hg hr =>
  (hg.block b (Array.getElem?_eq_some_iff.1 hs).1 (fun e => by
    obtain ⟨o, ho, hc⟩ := hr b e.symm
    rw [show X.heap[b]? = _ from hs] at ho
    cases ho
    cases hc)).trans hs
theorem kept_block {X Y : World} {row : Option Nat} {b : Nat} {c : Array Value} {t : TypeId} (hs : X.heap[b]? = some (.cells c t (0, 0))) (hg : X.grownBy Y row) (hr : ∀ r, row = some r → ∃ o : Obj, X.heap[r]? = some o ∧ o.isCells = false) : Y.heap[b]? = some (.cells c t (0, 0)) :=
  heap_own (β := Unit) b c t () X Y row hs hg hr
set_option maxHeartbeats 1000000 in
theorem back63 (A : Option Addr) (n c : Nat) (w : World) : Calls Try.prog 63 #[.slice A n c] w fun e w' => e = .returned (.func (.func 85) #[] #[.pointer (some ⟨w.heap.size, 0, none⟩)]) ∧ w' = w.alloc (.cells #[.slice A n c] 29) := by
  go_enter Try.func63, Try.ntmps63
  go_wp2
  go_ret
  exact ⟨rfl, rfl⟩
theorem heap_new {W : World} {c : Array Value} {t B : Nat} (hB : B = W.heap.size) : (W.alloc (.cells c t)).heap[B]? = some (.cells c t (0, 0)) := by
  subst hB
  exact World.alloc_heap_new _ _
theorem heap_old {W : World} {o x : Obj} {B : Nat} (h : W.heap[B]? = some x) : (W.alloc o).heap[B]? = some x := (Below.heap_alloc W o B (Array.getElem?_eq_some_iff.1 h).1).trans h
theorem cell_in {W : World} {c : Array Value} {t B j : Nat} {v : Value} (h : W.heap[B]? = some (.cells c t (0, 0))) (hj : c[j]? = some v) : W.cell? ⟨B, j, none⟩ = some v := by simp [World.cell?, h, hj]
theorem frozen_in {W : World} {c : Array Value} {t B j : Nat} (h : W.heap[B]? = some (.cells c t (0, 0))) : W.frozen? ⟨B, j, none⟩ = false := by simp [World.frozen?, h]
def lastP (p : S45 → Bool) (l : List S45) : Int × Bool := match (List.finRange l.length).reverse.find? (fun i => p (l.getD i.val z45)) with | some i => ((i.val : Int), true) | none => (0, false)
set_option maxRecDepth 100000 in
set_option maxHeartbeats 4000000 in
theorem last_any (p : S45 → Bool) (g : Nat) (lb : Array Value) (eg : ∀ args w, (callFunc g args).run Try.prog w = .ok (.enter g args) w) (A0 A1 A2 A3 A5 A7 : Option Addr) (n0 n1 n3 n5 n7 c0 c1 c2 c3 c5 c7 : Nat) (i4 i6 i8 : Int) (s9 : ByteArray) (l : List S45) (w : World)
    (hr : Kd.C k45 w A2 l.length l) (hp : PredK Try.prog k45 g lb p w) :
    Calls Try.prog 32 #[.agg #[.slice A0 n0 c0, .slice A1 n1 c1, .slice A2 l.length c2, .slice A3 n3 c3, .int .u32 i4, .slice A5 n5 c5, .int .i64 i6, .slice A7 n7 c7, .int .i64 i8, .string s9], .func (.func g) #[] lb] w
      fun e w' => e = .returned (.tuple #[.int .i64 (lastP p l).1, .bool (lastP p l).2]) ∧ Below w.heap.size w w' := by
  refine (callsIn_wide (n := 3)).1 ?_
  refine callsIn_of_wp_marks Try.func32 rfl trivial ?_ rfl
  simp only [Try.ntmps32, List.size_toArray, List.length_cons, List.length_nil, Nat.reduceAdd, Nat.reduceSub, Array.replicate_succ, Array.replicate_zero, List.push_toArray, List.append_toArray, List.nil_append, List.cons_append]
  gi_wp2_with (refine ⟨trivial, ?_⟩; gi_at_call 63; refine (callsIn_wide.2 (back63 _ _ _ _)).mono ?_; rintro e w1 ⟨rfl, rfl⟩)
  obtain ⟨f, hf⟩ := words_of hr
  obtain ⟨w5, hw5⟩ : ∃ w5, (((((w.alloc (.cells #[.slice A0 n0 c0, .slice A1 n1 c1, .slice A2 l.length c2, .slice A3 n3 c3, .int .u32 i4, .slice A5 n5 c5, .int .i64 i6, .slice A7 n7 c7, .int .i64 i8, .string s9] 35)).alloc (.cells #[.func (.func g) #[] lb] 61)).alloc (.cells #[.int .i64 0] 3)).alloc (.cells #[.bool false] 4)).alloc (.cells #[.slice A2 l.length c2] 29)) = w5 := ⟨_, rfl⟩
  rw [hw5]
  have hsz : w5.heap.size = w.heap.size + 5 := by rw [← hw5]; simp
  have hbel : Below w.heap.size w w5 := by rw [← hw5]; exact below_alloc (below_alloc (below_alloc (below_alloc (below_alloc (Below.refl _ _) _) _) _) _) _
  have k1 : w5.heap[w.heap.size + 1]? = some (.cells #[.func (.func g) #[] lb] 61 (0, 0)) := by rw [← hw5]; exact heap_old (heap_old (heap_old (heap_new (by simp))))
  have k2 : w5.heap[w.heap.size + 1 + 1]? = some (.cells #[.int .i64 0] 3 (0, 0)) := by rw [← hw5]; exact heap_old (heap_old (heap_new (by simp)))
  have k3 : w5.heap[w.heap.size + 1 + 1 + 1]? = some (.cells #[.bool false] 4 (0, 0)) := by rw [← hw5]; exact heap_old (heap_new (by simp))
  have k4 : w5.heap[w.heap.size + 1 + 1 + 1 + 1]? = some (.cells #[.slice A2 l.length c2] 29 (0, 0)) := by rw [← hw5]; exact heap_new (by simp)
  clear hw5
  refine wpIn_rangeFunc_ownH rfl (by omega) (gf := 85) (lb := #[.pointer (some ⟨w.heap.size + 1 + 1 + 1 + 1, 0, none⟩)]) rfl trivial (enters_of Try.func85 (by kernel_rfl) rfl)
    (back_stops 2 w.heap.size (by omega) (w.heap.size + 1 + 1 + 1 + 1) A2 c2 l f w5 hr.2.1 k4 hbel.size (fun i => by
      obtain ⟨⟨ad, e, h⟩, _, _⟩ := hf i
      exact ⟨ad, e, by have := World.block_lt_of_cell? w _ h.1; rwa [add_block] at this, h.kept (hbel.block _ (by have := World.block_lt_of_cell? w _ h.1; rwa [add_block] at this))⟩))
    KpT.trans (kpT_b hbel.size) (Below.refl _ _) (fun _ => rfl)
    (fun pre W => ((∀ i ∈ pre, p (l.getD i.val z45) = false) ∧ W.heap[w.heap.size + 1]? = some (.cells #[.func (.func g) #[] lb] 61 (0, 0)) ∧ W.heap[w.heap.size + 1 + 1]? = some (.cells #[.int .i64 0] 3 (0, 0)) ∧ W.heap[w.heap.size + 1 + 1 + 1]? = some (.cells #[.bool false] 4 (0, 0))) ∧ Below w.heap.size w W)
    (fun c pre W => (∃ i pre', c = .ret ∧ pre = pre' ++ [i] ∧ (∀ j ∈ pre', p (l.getD j.val z45) = false) ∧ p (l.getD i.val z45) = true ∧ W.heap[w.heap.size + 1 + 1]? = some (.cells #[.int .i64 (i.val : Int)] 3 (0, 0)) ∧ W.heap[w.heap.size + 1 + 1 + 1]? = some (.cells #[.bool true] 4 (0, 0))) ∧ Below w.heap.size w W)
    (OwnFrom.and (Own.from (fun s A B row hs hg hr => ⟨hs.1, kept_block hs.2.1 hg hr, kept_block hs.2.2.1 hg hr, kept_block hs.2.2.2 hg hr⟩) _) (ownFrom_below (Nat.le_refl _) (by omega)))
    (fun c => OwnFrom.and (Own.from (fun s A B row hs hg hr => by
      obtain ⟨i, pre', h1, h2, h3, h4, h5, h6⟩ := hs
      exact ⟨i, pre', h1, h2, h3, h4, kept_block h5 hg hr, kept_block h6 hg hr⟩) _) (ownFrom_below (Nat.le_refl _) (by omega)))
    ⟨⟨by simp, k1, k2, k3⟩, hbel⟩
    (fun x a' W => ∃ Bx, W.heap[Bx]? = some (.cells #[.string (l.getD x.val z45).f0, .int .i64 (l.getD x.val z45).f1, .int .i64 (l.getD x.val z45).f2, .int .u32 (l.getD x.val z45).f3, .slice (f x).1 (l.getD x.val z45).f4.length (f x).2] 45 (0, 0)) ∧ a' = { tmps := #[.agg #[.slice A0 n0 c0, .slice A1 n1 c1, .slice A2 l.length c2, .slice A3 n3 c3, .int .u32 i4, .slice A5 n5 c5, .int .i64 i6, .slice A7 n7 c7, .int .i64 i8, .string s9], .func (.func g) #[] lb, .pointer (some ⟨w.heap.size, 0, none⟩), .pointer (some ⟨w.heap.size + 1, 0, none⟩), .pointer (some ⟨w.heap.size + 1 + 1, 0, none⟩), .pointer (some ⟨w.heap.size + 1 + 1 + 1, 0, none⟩), .int .i64 (x.val : Int), .pointer (some ⟨Bx, 0, none⟩), .pointer (some ⟨w.heap.size, 2, none⟩), .slice A2 l.length c2, .func (.func 85) #[] #[.pointer (some ⟨w.heap.size + 1 + 1 + 1 + 1, 0, none⟩)], .int .i64 (x.val : Int), (.agg #[.string (l.getD x.val z45).f0, .int .i64 (l.getD x.val z45).f1, .int .i64 (l.getD x.val z45).f2, .int .u32 (l.getD x.val z45).f3, .slice (f x).1 (l.getD x.val z45).f4.length (f x).2]), undef, undef, undef, undef], defers := [] }) ?hAx ?assign ?body ?done ?stop
  case hAx =>
    intro x a'
    exact Own.from (fun s A B row hs hg hr => by
      obtain ⟨Bx, h2, h3⟩ := hs
      exact ⟨Bx, kept_block h2 hg hr, h3⟩) _
  case assign =>
    intro s pre x W K hI hK
    simp only [wordEnc, wordV]
    have HK := Aside0.mk hK
    have HI := Aside0.mk hI
    clear hK hI k1 k2 k3 k4
    generalize hy : l.getD x.val z45 = y at *
    generalize hq : f x = q at *
    clear hy hq
    gi_wp2
    obtain ⟨⟨i1, i2, i3, i4⟩, i5⟩ := HI.out
    refine HK.out _ _ (KeepsFrom.of_below' (below_alloc (Below.refl _ _) _)) (KpT.of_below (below_alloc (Below.refl _ _) _)) ⟨⟨i1, heap_old i2, heap_old i3, heap_old i4⟩, below_alloc i5 _⟩ ⟨W.heap.size, heap_new rfl, rfl⟩
  case body =>
    rintro s pre x a' W hl ⟨r, hr2⟩ ⟨⟨i1, i2, i3, i4⟩, i5⟩ ⟨Bx, hbx, rfl⟩ hlt
    obtain ⟨_, hl4, hi4⟩ := hf x
    have hK := k45_mk W (l.getD x.val z45) hl4 (Kd.C_below hi4 i5)
    have hcall := hp W _ _ i5 hK
    have hcl : CallsIn (Fence.wide.inRound s) (3 - 1 - 1 - 1) Try.prog g (#[wordV (l.getD x.val z45) (f x)] ++ lb) W fun e w' => e = .returned (.bool (p (l.getD x.val z45))) ∧ Below W.heap.size W w' := CallsIn.inRound s (callsIn_wide.2 hcall)
    have HC := Aside0.mk hcl
    have I1 := Aside0.mk i1
    have I5 := Aside0.mk i5
    have e1 := cell_in (j := 0) i2 rfl
    have e3 := cell_in (j := 0) hbx rfl
    have e4 := cell_in (j := 1) hbx rfl
    have e5 := cell_in (j := 2) hbx rfl
    have e6 := cell_in (j := 3) hbx rfl
    have e7 := cell_in (j := 4) hbx rfl
    have I2 := Aside0.mk i2
    have I3 := Aside0.mk i3
    have I4 := Aside0.mk i4
    clear hcl hcall hK hl4 hi4 i1 i2 i3 i4 i5 hbx k1 k2 k3 k4
    generalize hy : l.getD x.val z45 = y at *
    generalize f x = q at *
    have HY := Aside0.mk hy
    clear hy
    cases hpx : p y with
    | true =>
      rw [hpx] at HC
      have HPX := Aside0.mk hpx
      clear hpx
      simp only [wordV] at HC
      gi_wp2_with (refine ⟨trivial, ?_⟩; gi_at_fn g; refine HC.out.mono ?_; rintro e w6 ⟨rfl, hb6⟩; have j2 := (hb6.block _ (Array.getElem?_eq_some_iff.1 I2.out).1).trans I2.out; have j3 := (hb6.block _ (Array.getElem?_eq_some_iff.1 I3.out).1).trans I3.out; have j4 := (hb6.block _ (Array.getElem?_eq_some_iff.1 I4.out).1).trans I4.out; have c3 := cell_in (j := 0) j3 rfl; have c4 := cell_in (j := 0) j4 rfl; have f3 := frozen_in (j := 0) j3; have f4 := frozen_in (j := 0) j4; have J2 := Aside0.mk j2; have J3 := Aside0.mk j3; have J4 := Aside0.mk j4; have HB6 := Aside0.mk hb6; clear j2 j3 j4 hb6)
      refine ⟨(KeepsFrom.of_below' HB6.out).trans (((KeepsOthers.setCell _ _ _).from _).trans ((KeepsOthers.setCell _ _ _).from _)), ⟨x, pre, rfl, rfl, I1.out, by rw [HY.out]; exact HPX.out, Boxed.other (Boxed.set _ J3.out) (by omega) _, Boxed.set _ (Boxed.other J4.out (by omega) _)⟩, ?_⟩
      exact ((below_go I5.out HB6.out).setCell (p := ⟨w.heap.size + 1 + 1, 0, none⟩) (by simp; omega) _).setCell (p := ⟨w.heap.size + 1 + 1 + 1, 0, none⟩) (by simp; omega) _
    | false =>
      rw [hpx] at HC
      have HPX := Aside0.mk hpx
      clear hpx
      simp only [wordV] at HC
      gi_wp2_with (refine ⟨trivial, ?_⟩; gi_at_fn g; refine HC.out.mono ?_; rintro e w6 ⟨rfl, hb6⟩; have j2 := (hb6.block _ (Array.getElem?_eq_some_iff.1 I2.out).1).trans I2.out; have j3 := (hb6.block _ (Array.getElem?_eq_some_iff.1 I3.out).1).trans I3.out; have j4 := (hb6.block _ (Array.getElem?_eq_some_iff.1 I4.out).1).trans I4.out; have c3 := cell_in (j := 0) j3 rfl; have c4 := cell_in (j := 0) j4 rfl; have f3 := frozen_in (j := 0) j3; have f4 := frozen_in (j := 0) j4; have J2 := Aside0.mk j2; have J3 := Aside0.mk j3; have J4 := Aside0.mk j4; have HB6 := Aside0.mk hb6; clear j2 j3 j4 hb6)
      refine ⟨KeepsFrom.of_below' HB6.out, KpT.of_below HB6.out, ⟨fun i hi => ?_, J2.out, J3.out, J4.out⟩, below_go I5.out HB6.out⟩
      rcases List.mem_append.1 hi with hi | hi
      · exact I1.out i hi
      · obtain rfl := List.mem_singleton.1 hi
        rw [HY.out]; exact HPX.out
  case done =>
    rintro D ys W hD rfl ⟨⟨i1, i2, i3, i4⟩, i5⟩ hK
    have hl : lastP p l = (0, false) := by
      unfold lastP
      rw [List.find?_eq_none.2 (fun x hx => by have := i1 x hx; rw [this]; exact Bool.false_ne_true)]
    have HL := Aside0.mk hl
    have c3 := cell_in (j := 0) i3 rfl
    have c4 := cell_in (j := 0) i4 rfl
    have f3 := frozen_in (j := 0) i3
    have f4 := frozen_in (j := 0) i4
    have I3 := Aside0.mk i3
    have I4 := Aside0.mk i4
    have I5 := Aside0.mk i5
    have HK := Aside0.mk hK
    clear i1 i2 i3 i4 i5 hK k1 k2 k3 k4 hl
    gi_wp2
    obtain ⟨W2, hW2⟩ : ∃ W2, (W.setCell ⟨w.heap.size + 1 + 1, 0, none⟩ (.int .i64 0)).setCell ⟨w.heap.size + 1 + 1 + 1, 0, none⟩ (.bool false) = W2 := ⟨_, rfl⟩
    have hK' : W2.heap[D]? = some (.deferred (some [])) := by rw [← hW2]; exact (KeepsOthers.setCell _ _ _).same D _ ((KeepsOthers.setCell _ _ _).same D _ HK.out rfl) rfl
    have q3 : Boxed W2 (w.heap.size + 1 + 1) 3 (.int .i64 0) := by rw [← hW2]; exact Boxed.other (Boxed.set _ I3.out) (by omega) _
    have q4 : Boxed W2 (w.heap.size + 1 + 1 + 1) 4 (.bool false) := by rw [← hW2]; exact Boxed.set _ (Boxed.other I4.out (by omega) _)
    have q5 : Below w.heap.size w W2 := by rw [← hW2]; exact ((I5.out).setCell (p := ⟨w.heap.size + 1 + 1, 0, none⟩) (by simp; omega) _).setCell (p := ⟨w.heap.size + 1 + 1 + 1, 0, none⟩) (by simp; omega) _
    rw [hW2]
    refine ⟨by simp, .inl ⟨_, _, rfl, run_takeDeferred hK', ?_⟩⟩
    have c5 := cell_kept q3.cell (grownBy_putObj' _ D (.deferred none)) (fun r e => by cases e; exact ⟨_, hK', rfl⟩)
    have c6 := cell_kept q4.cell (grownBy_putObj' _ D (.deferred none)) (fun r e => by cases e; exact ⟨_, hK', rfl⟩)
    refine ⟨.tuple #[.int .i64 0, .bool false], ?_, by rw [HL.out], q5.trans (belowK_b (w := w) (Nat.le_refl _) _ D _ _ (by omega) hK' rfl rfl)⟩
    simp [results, Try.f32, go_sem, c5, c6]
  case stop =>
    rintro D c pre W hD hpre ⟨⟨i, pre', rfl, rfl, h3, h4, h5, h6⟩, hB⟩ hK
    have hl : lastP p l = ((i.val : Int), true) := by
      unfold lastP
      obtain ⟨suf, hs⟩ := hpre
      rw [← hs, List.find?_append, List.find?_append, List.find?_eq_none.2 (fun x hx => by have := h3 x hx; rw [this]; exact Bool.false_ne_true)]
      simp only [Option.none_or, List.find?_singleton, h4, if_true, Option.some_or]
    have HL := Aside0.mk hl
    have H5 := Aside0.mk h5
    have H6 := Aside0.mk h6
    have HB := Aside0.mk hB
    have HK := Aside0.mk hK
    clear hl h3 h4 h5 h6 hB hK k1 k2 k3 k4 hpre
    gi_wp2
    refine ⟨by simp, .inl ⟨_, _, rfl, run_takeDeferred HK.out, ?_⟩⟩
    have c5 := cell_kept (cell_in (j := 0) H5.out rfl) (grownBy_putObj' _ D (.deferred none)) (fun r e => by cases e; exact ⟨_, HK.out, rfl⟩)
    have c6 := cell_kept (cell_in (j := 0) H6.out rfl) (grownBy_putObj' _ D (.deferred none)) (fun r e => by cases e; exact ⟨_, HK.out, rfl⟩)
    refine ⟨.tuple #[.int .i64 (i.val : Int), .bool true], ?_, by rw [HL.out], (HB.out).trans (belowK_b (w := w) (Nat.le_refl _) _ D _ _ (by omega) HK.out rfl rfl)⟩
    simp [results, Try.f32, go_sem, c5, c6]
def findP (name : ByteArray) (x : S45) : Bool := !name.toList.isEmpty && (x.f0.toList == name.toList)
set_option maxHeartbeats 4000000 in
set_option maxRecDepth 100000 in
theorem find33 (s : ByteArray) (B : Nat) (x : S45) (c : List Value) (W : World) (hB : W.cell? ⟨B, 0, none⟩ = some (.string s)) (hK : k45.K W x c) :
    Calls Try.prog 33 (#[.agg c.toArray] ++ #[.pointer (some ⟨B, 0, none⟩)]) W fun e w' => e = .returned (.bool (findP s x)) ∧ Below W.heap.size W w' := by
  obtain ⟨A4, c4, rfl, l4, g4⟩ := k45_open hK
  have hlt := World.block_lt_of_cell? W _ hB
  simp only at hlt
  clear hK g4 l4
  obtain ⟨n0, x1, x2, x3, x4⟩ := x
  simp only at *
  by_cases e1 : s.toList = []
  · have d1 : s.toList.isEmpty = true := by rw [e1]; rfl
    have HI := Aside0.mk (show findP s ⟨n0, x1, x2, x3, x4⟩ = false by simp [findP, d1])
    clear e1
    go_enter Try.func33, Try.ntmps33
    go_wp2
    go_ret
    exact ⟨by rw [HI.out]; rfl, below_alloc (Below.refl _ _) _⟩
  · have d1 : s.toList.isEmpty = false := by simpa [List.isEmpty_iff] using e1
    have HI := Aside0.mk (show findP s ⟨n0, x1, x2, x3, x4⟩ = (n0.toList == s.toList) by simp [findP, d1])
    clear e1
    go_enter Try.func33, Try.ntmps33
    go_wp2
    go_ret
    exact ⟨by rw [HI.out]; rfl, below_alloc (Below.refl _ _) _⟩
theorem find_pred (s : ByteArray) (B : Nat) (w : World) (hB : w.cell? ⟨B, 0, none⟩ = some (.string s)) : PredK Try.prog k45 33 #[.pointer (some ⟨B, 0, none⟩)] (findP s) w := by
  intro W x c hb hK
  exact find33 s B x c W (pw_cell_below hb hB) hK
def dict_Find.f (l0_0 : List Int) (l0_1 : List Int) (l0_2 : List (S45)) (l0_3 : List Int) (a0_4 : Int) (l0_5 : List (S92)) (a0_6 : Int) (l0_7 : List (S80)) (a0_8 : Int) (a0_9 : ByteArray) (a1 : ByteArray) : Option (Int × Bool) := some (lastP (findP a1) l0_2)
set_option maxHeartbeats 4000000 in
set_option maxRecDepth 100000 in
theorem dict_Find.calls (A0_0 : Option Addr) (c0_0 : Nat) (l0_0 : List Int) (A0_1 : Option Addr) (c0_1 : Nat) (l0_1 : List Int) (A0_2 : Option Addr) (c0_2 : Nat) (l0_2 : List (S45)) (A0_3 : Option Addr) (c0_3 : Nat) (l0_3 : List Int) (a0_4 : Int) (A0_5 : Option Addr) (c0_5 : Nat) (l0_5 : List (S92)) (a0_6 : Int) (A0_7 : Option Addr) (c0_7 : Nat) (l0_7 : List (S80)) (a0_8 : Int) (a0_9 : ByteArray) (a1 : ByteArray) (r1 : Int) (r2 : Bool) (w : World) (hr0_0 : Kd.C (Kd.int .u32) w A0_0 l0_0.length l0_0) (hc0_0 : l0_0.length ≤ c0_0) (hr0_1 : Kd.C (Kd.int .u8) w A0_1 l0_1.length l0_1) (hc0_1 : l0_1.length ≤ c0_1) (hr0_2 : Kd.C k45 w A0_2 l0_2.length l0_2) (hc0_2 : l0_2.length ≤ c0_2) (hr0_3 : Kd.C (Kd.int .i64) w A0_3 l0_3.length l0_3) (hc0_3 : l0_3.length ≤ c0_3) (hr0_5 : Kd.C k92 w A0_5 l0_5.length l0_5) (hc0_5 : l0_5.length ≤ c0_5) (hr0_7 : Kd.C k80 w A0_7 l0_7.length l0_7) (hc0_7 : l0_7.length ≤ c0_7) (h : dict_Find.f l0_0 l0_1 l0_2 l0_3 a0_4 l0_5 a0_6 l0_7 a0_8 a0_9 a1 = some (r1, r2)) :
    Calls Try.prog 14 #[.agg #[.slice A0_0 l0_0.length c0_0, .slice A0_1 l0_1.length c0_1, .slice A0_2 l0_2.length c0_2, .slice A0_3 l0_3.length c0_3, .int .u32 a0_4, .slice A0_5 l0_5.length c0_5, .int .i64 a0_6, .slice A0_7 l0_7.length c0_7, .int .i64 a0_8, .string a0_9], .string a1] w fun e w' => e = .returned (.tuple #[.int .i64 r1, .bool r2]) ∧ Below w.heap.size w w' := by
  have hv : lastP (findP a1) l0_2 = (r1, r2) := Option.some.inj h
  have e1 : (lastP (findP a1) l0_2).1 = r1 := by rw [hv]
  have e2 : (lastP (findP a1) l0_2).2 = r2 := by rw [hv]
  clear hr0_0 hr0_1 hr0_3 hr0_5 hr0_7 hc0_0 hc0_1 hc0_2 hc0_3 hc0_5 hc0_7 h hv
  have hl : ∀ (W : World) (B : Nat), Below w.heap.size w W → W.cell? ⟨B, 0, none⟩ = some (.string a1) → Calls Try.prog 32 #[.agg #[.slice A0_0 l0_0.length c0_0, .slice A0_1 l0_1.length c0_1, .slice A0_2 l0_2.length c0_2, .slice A0_3 l0_3.length c0_3, .int .u32 a0_4, .slice A0_5 l0_5.length c0_5, .int .i64 a0_6, .slice A0_7 l0_7.length c0_7, .int .i64 a0_8, .string a0_9], .func (.func 33) #[] #[.pointer (some ⟨B, 0, none⟩)]] W fun e w' => e = .returned (.tuple #[.int .i64 r1, .bool r2]) ∧ Below W.heap.size W w' := fun W B hb hB => by
    have z := last_any (findP a1) 33 #[.pointer (some ⟨B, 0, none⟩)] (enters_of Try.func33 (by kernel_rfl) rfl) A0_0 A0_1 A0_2 A0_3 A0_5 A0_7 l0_0.length l0_1.length l0_3.length l0_5.length l0_7.length c0_0 c0_1 c0_2 c0_3 c0_5 c0_7 a0_4 a0_6 a0_8 a0_9 l0_2 W (Kd.C_below hr0_2 hb) (find_pred a1 B W hB)
    rw [e1, e2] at z
    exact z
  have HL := Aside0.mk hl
  clear hl hr0_2 e1 e2
  go_enter Try.func14, Try.ntmps14
  go_wp2_with (go_at_call 32; refine (HL.out _ _ (by repeat (first | exact Below.refl _ _ | apply below_alloc)) (cell_in (heap_new (by simp)) rfl)).mono ?_; rintro e w' ⟨rfl, hb⟩)
  go_ret2
  exact ⟨rfl, below_go (below_alloc (below_alloc (Below.refl _ _) _) _) hb⟩
def methP (node : Int) (name : ByteArray) (x : S45) : Bool := !name.toList.isEmpty && (decide (0 ≤ node) && ((x.f0.toList == name.toList) && (x.f1 == node)))
set_option maxHeartbeats 4000000 in
set_option maxRecDepth 100000 in
theorem meth34 (s : ByteArray) (n : Int) (B B2 : Nat) (x : S45) (c : List Value) (W : World) (hB : W.cell? ⟨B, 0, none⟩ = some (.string s)) (hB2 : W.cell? ⟨B2, 0, none⟩ = some (.int .i64 n)) (hK : k45.K W x c) :
    Calls Try.prog 34 (#[.agg c.toArray] ++ #[.pointer (some ⟨B, 0, none⟩), .pointer (some ⟨B2, 0, none⟩)]) W fun e w' => e = .returned (.bool (methP n s x)) ∧ Below W.heap.size W w' := by
  obtain ⟨A4, c4, rfl, l4, g4⟩ := k45_open hK
  have hlt := World.block_lt_of_cell? W _ hB
  have hlt2 := World.block_lt_of_cell? W _ hB2
  simp only at hlt hlt2
  clear hK g4 l4
  obtain ⟨n0, x1, x2, x3, x4⟩ := x
  simp only at *
  by_cases e1 : s.toList = []
  · have d1 : s.toList.isEmpty = true := by rw [e1]; rfl
    have HI := Aside0.mk (show methP n s ⟨n0, x1, x2, x3, x4⟩ = false by simp [methP, d1])
    clear e1
    go_enter Try.func34, Try.ntmps34
    go_wp2
    go_ret
    exact ⟨by rw [HI.out]; rfl, below_alloc (Below.refl _ _) _⟩
  · have d1 : s.toList.isEmpty = false := by simpa [List.isEmpty_iff] using e1
    clear e1
    by_cases e2 : 0 ≤ n
    · have d2 : decide (0 ≤ n) = true := decide_eq_true e2
      by_cases e3 : n0.toList = s.toList
      · have d3 : (n0.toList == s.toList) = true := by simpa using e3
        have HI := Aside0.mk (show methP n s ⟨n0, x1, x2, x3, x4⟩ = (x1 == n) by simp [methP, d1, e2, d3])
        clear e3 e2
        go_enter Try.func34, Try.ntmps34
        go_wp2
        go_ret
        exact ⟨by rw [HI.out]; rfl, below_alloc (Below.refl _ _) _⟩
      · have d3 : (n0.toList == s.toList) = false := by simpa using e3
        have HI := Aside0.mk (show methP n s ⟨n0, x1, x2, x3, x4⟩ = false by simp [methP, d1, e2, d3])
        clear e3 e2
        go_enter Try.func34, Try.ntmps34
        go_wp2
        go_ret
        exact ⟨by rw [HI.out]; rfl, below_alloc (Below.refl _ _) _⟩
    · have d2 : decide (0 ≤ n) = false := decide_eq_false e2
      have HI := Aside0.mk (show methP n s ⟨n0, x1, x2, x3, x4⟩ = false by simp [methP, d1, e2])
      clear e2
      go_enter Try.func34, Try.ntmps34
      go_wp2
      go_ret
      exact ⟨by rw [HI.out]; rfl, below_alloc (Below.refl _ _) _⟩
theorem meth_pred (s : ByteArray) (n : Int) (B B2 : Nat) (w : World) (hB : w.cell? ⟨B, 0, none⟩ = some (.string s)) (hB2 : w.cell? ⟨B2, 0, none⟩ = some (.int .i64 n)) : PredK Try.prog k45 34 #[.pointer (some ⟨B, 0, none⟩), .pointer (some ⟨B2, 0, none⟩)] (methP n s) w := by
  intro W x c hb hK
  exact meth34 s n B B2 x c W (pw_cell_below hb hB) (pw_cell_below hb hB2) hK
def dict_Method.f (l0_0 : List Int) (l0_1 : List Int) (l0_2 : List (S45)) (l0_3 : List Int) (a0_4 : Int) (l0_5 : List (S92)) (a0_6 : Int) (l0_7 : List (S80)) (a0_8 : Int) (a0_9 : ByteArray) (a1 : Int) (a2 : ByteArray) : Option (Int × Bool) := some (lastP (methP a1 a2) l0_2)
set_option maxHeartbeats 4000000 in
set_option maxRecDepth 100000 in
theorem dict_Method.calls (A0_0 : Option Addr) (c0_0 : Nat) (l0_0 : List Int) (A0_1 : Option Addr) (c0_1 : Nat) (l0_1 : List Int) (A0_2 : Option Addr) (c0_2 : Nat) (l0_2 : List (S45)) (A0_3 : Option Addr) (c0_3 : Nat) (l0_3 : List Int) (a0_4 : Int) (A0_5 : Option Addr) (c0_5 : Nat) (l0_5 : List (S92)) (a0_6 : Int) (A0_7 : Option Addr) (c0_7 : Nat) (l0_7 : List (S80)) (a0_8 : Int) (a0_9 : ByteArray) (a1 : Int) (a2 : ByteArray) (r1 : Int) (r2 : Bool) (w : World) (hr0_0 : Kd.C (Kd.int .u32) w A0_0 l0_0.length l0_0) (hc0_0 : l0_0.length ≤ c0_0) (hr0_1 : Kd.C (Kd.int .u8) w A0_1 l0_1.length l0_1) (hc0_1 : l0_1.length ≤ c0_1) (hr0_2 : Kd.C k45 w A0_2 l0_2.length l0_2) (hc0_2 : l0_2.length ≤ c0_2) (hr0_3 : Kd.C (Kd.int .i64) w A0_3 l0_3.length l0_3) (hc0_3 : l0_3.length ≤ c0_3) (hr0_5 : Kd.C k92 w A0_5 l0_5.length l0_5) (hc0_5 : l0_5.length ≤ c0_5) (hr0_7 : Kd.C k80 w A0_7 l0_7.length l0_7) (hc0_7 : l0_7.length ≤ c0_7) (h : dict_Method.f l0_0 l0_1 l0_2 l0_3 a0_4 l0_5 a0_6 l0_7 a0_8 a0_9 a1 a2 = some (r1, r2)) :
    Calls Try.prog 16 #[.agg #[.slice A0_0 l0_0.length c0_0, .slice A0_1 l0_1.length c0_1, .slice A0_2 l0_2.length c0_2, .slice A0_3 l0_3.length c0_3, .int .u32 a0_4, .slice A0_5 l0_5.length c0_5, .int .i64 a0_6, .slice A0_7 l0_7.length c0_7, .int .i64 a0_8, .string a0_9], .int .i64 a1, .string a2] w fun e w' => e = .returned (.tuple #[.int .i64 r1, .bool r2]) ∧ Below w.heap.size w w' := by
  have hv : lastP (methP a1 a2) l0_2 = (r1, r2) := Option.some.inj h
  have e1 : (lastP (methP a1 a2) l0_2).1 = r1 := by rw [hv]
  have e2 : (lastP (methP a1 a2) l0_2).2 = r2 := by rw [hv]
  clear hr0_0 hr0_1 hr0_3 hr0_5 hr0_7 hc0_0 hc0_1 hc0_2 hc0_3 hc0_5 hc0_7 h hv
  have hl : ∀ (W : World) (B B2 : Nat), Below w.heap.size w W → W.cell? ⟨B, 0, none⟩ = some (.string a2) → W.cell? ⟨B2, 0, none⟩ = some (.int .i64 a1) → Calls Try.prog 32 #[.agg #[.slice A0_0 l0_0.length c0_0, .slice A0_1 l0_1.length c0_1, .slice A0_2 l0_2.length c0_2, .slice A0_3 l0_3.length c0_3, .int .u32 a0_4, .slice A0_5 l0_5.length c0_5, .int .i64 a0_6, .slice A0_7 l0_7.length c0_7, .int .i64 a0_8, .string a0_9], .func (.func 34) #[] #[.pointer (some ⟨B, 0, none⟩), .pointer (some ⟨B2, 0, none⟩)]] W fun e w' => e = .returned (.tuple #[.int .i64 r1, .bool r2]) ∧ Below W.heap.size W w' := fun W B B2 hb hB hB2 => by
    have z := last_any (methP a1 a2) 34 #[.pointer (some ⟨B, 0, none⟩), .pointer (some ⟨B2, 0, none⟩)] (enters_of Try.func34 (by kernel_rfl) rfl) A0_0 A0_1 A0_2 A0_3 A0_5 A0_7 l0_0.length l0_1.length l0_3.length l0_5.length l0_7.length c0_0 c0_1 c0_2 c0_3 c0_5 c0_7 a0_4 a0_6 a0_8 a0_9 l0_2 W (Kd.C_below hr0_2 hb) (meth_pred a2 a1 B B2 W hB hB2)
    rw [e1, e2] at z
    exact z
  have HL := Aside0.mk hl
  clear hl hr0_2 e1 e2
  go_enter Try.func16, Try.ntmps16
  go_wp2_with (go_at_call 32; refine (HL.out _ _ _ (by repeat (first | exact Below.refl _ _ | apply below_alloc)) (cell_in (heap_new (by simp)) rfl) (cell_in (heap_old (heap_new (by simp))) rfl)).mono ?_; rintro e w' ⟨rfl, hb⟩)
  go_ret2
  exact ⟨rfl, below_go (below_alloc (below_alloc (below_alloc (Below.refl _ _) _) _) _) hb⟩
end Go.Proofs.Ytpalbpakeokimaa.PK
