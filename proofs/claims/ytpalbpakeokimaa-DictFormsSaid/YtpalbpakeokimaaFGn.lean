/- tinder: a part of the proof, joined and pruned by wip/tools/prune.py out of: Gn -/
import Derived.Test.YtpalbpakeokimaaFGq
import Derived.Test.YtpalbpakeokimaaFK38
namespace Go.Proofs.Ytpalbpakeokimaa.PK
set_option linter.unusedVariables false
set_option linter.unusedSimpArgs false
open Go.RowKit Go.Proofs.YtpalbpakeokimaaW.PrintWords Go.Proofs.YtpalbpakeokimaaW.PrintLast Go.Proofs.YtpalbpakeokimaaW.PrintMore
open Go.Shelf
attribute [local go_sem] Oper.semAt_some
def wordOf (p : S64) : S45 := ⟨p.f0, -1, 1, p.f1 % 4294967296, []⟩
def words0 : List S45 := (List.finRange 111).map (fun i => wordOf (primAt i.val))
def rootN : S92 := ⟨⟨#[]⟩, [], -1, [], []⟩
theorem R_owned {α : Type} {d : Kd α} {e base : Nat} {ok : Nat → Prop} {A B : World} {row : Option Nat} {v : Value} {xs : List α} (h : d.R e A base ok v xs) (hg : A.grownBy B row) (hr : ∀ r, row = some r → ∃ o : Obj, A.heap[r]? = some o ∧ o.isCells = false) : d.R e B base ok v xs :=
  Kd.R_mono (Kd.R_grown (Kd.R_bound h) hg (fun k hk e => by
    obtain ⟨o, ho, hc⟩ := hr k e.symm
    obtain ⟨q, _, cells, hh⟩ := hk.2.2.2
    rw [ho] at hh
    cases hh
    cases hc)) (fun k hk => hk.1)
theorem S_owned {α : Type} {d : Kd α} {e base : Nat} {ok : Nat → Prop} {A B : World} {row : Option Nat} {v : Value} {xs : List α} (h : Kd.S d e A base ok v xs) (hg : A.grownBy B row) (hr : ∀ r, row = some r → ∃ o : Obj, A.heap[r]? = some o ∧ o.isCells = false) : Kd.S d e B base ok v xs :=
  Kd.S_mono (Kd.S_grown (Kd.S_bound h) hg (fun k hk e => by
    obtain ⟨o, ho, hc⟩ := hr k e.symm
    obtain ⟨q, _, cells, hh⟩ := hk.2.2.2
    rw [ho] at hh
    cases hh
    cases hc)) (fun k hk => hk.1)
def Tr (n₀ : Nat) (A B : World) : Prop := KeepsOthers A B ∧ KpT n₀ 64 A B
theorem Tr.trans {n₀ : Nat} {A B C : World} (h : Tr n₀ A B) (k : Tr n₀ B C) : Tr n₀ A C := ⟨h.1.trans k.1, h.2.trans k.2⟩
theorem tr_but {n₀ : Nat} {A B : World} (g : Option Nat) (hs : A.heap.size ≤ B.heap.size) (hg : ∀ k, g = some k → n₀ ≤ k ∧ ∃ c t, t ≠ 64 ∧ A.heap[k]? = some (.cells c t (0, 0)))
    (hm : ∀ k, k < A.heap.size → some k ≠ g → B.heap[k]? = A.heap[k]?) : Tr n₀ A B := by
  refine ⟨⟨hs, fun k o hk ho => ?_⟩, hs, fun k hk ht => ?_⟩
  · refine (hm k (Array.getElem?_eq_some_iff.1 hk).1 (fun e => ?_)).trans hk
    obtain ⟨_, c, t, _, hc⟩ := hg k e.symm
    rw [hk] at hc
    injection hc with hc
    subst hc
    cases ho
  · refine hm k hk (fun e => ?_)
    obtain ⟨h1, c, t, h2, hc⟩ := hg k e.symm
    rcases ht with ht | ⟨c', hc'⟩
    · omega
    · rw [hc] at hc'
      injection hc' with hc'
      injection hc' with _ hc'
      exact h2 hc'
theorem tr_below {n₀ : Nat} {A B : World} (h : Below A.heap.size A B) : Tr n₀ A B := tr_but none h.size (fun k e => by cases e) (fun k hk _ => h.block k hk)
def NewF (w w1 : World) (A5 : Option Addr) (c5 : Nat) (v2 : Value) (Bx : Nat) (y : S64) (W0 W : World) : Prop :=
  W.heap[w1.heap.size]? = some (.cells #[.slice none 0 0, .slice none 0 0, v2, .slice none 0 0, .int .u32 16, .slice A5 1 c5, .int .i64 (-1), .slice none 0 0, .int .i64 (-1), .string (⟨#[]⟩ : ByteArray)] 35 (0, 0)) ∧ W.heap[w.heap.size]? = some (.cells #[.slice none 0 0, .slice none 0 0, .slice none 0 0, .slice none 0 0, .int .u32 0, .slice none 0 0, .int .i64 0, .slice none 0 0, .int .i64 0, .string (⟨#[]⟩ : ByteArray)] 35 (0, 0)) ∧ Kd.R k92 92 W w.heap.size (fun k => k < w1.heap.size) (.slice A5 1 c5) [rootN] ∧ Below w.heap.size w W ∧ W.heap[Bx]? = some (.cells #[.string y.f0, .int .i64 y.f1] 64 (0, 0)) ∧ Tr w.heap.size W0 W
theorem NewF.below {w w1 : World} {A5 : Option Addr} {c5 : Nat} {v2 : Value} {Bx : Nat} {y : S64} {W0 W W' : World} (h : NewF w w1 A5 c5 v2 Bx y W0 W) (hb : Below W.heap.size W W') : NewF w w1 A5 c5 v2 Bx y W0 W' := by
  obtain ⟨h1, h2, h3, h4, h5, h6⟩ := h
  exact ⟨(hb.block _ (Array.getElem?_eq_some_iff.1 h1).1).trans h1, (hb.block _ (Array.getElem?_eq_some_iff.1 h2).1).trans h2, Kd.R_below h3 hb, below_then h4 h4.size hb, (hb.block _ (Array.getElem?_eq_some_iff.1 h5).1).trans h5, h6.trans (tr_below hb)⟩
theorem NewF.grown {w w1 : World} {A5 : Option Addr} {c5 : Nat} {v2 v : Value} {Bx : Nat} {y : S64} {W0 W W' : World} (h : NewF w w1 A5 c5 v2 Bx y W0 W) (hty : ∀ k, v.ownBlock = some k → ∃ cells, W.heap[k]? = some (.cells cells 45 (0, 0))) (hba : ∀ k, v.ownBlock = some k → w.heap.size ≤ k) (hg : W.grownBy W' v.ownBlock) (hb : Below w.heap.size w W') : NewF w w1 A5 c5 v2 Bx y W0 W' := by
  obtain ⟨h1, h2, h3, h4, h5, h6⟩ := h
  have key : ∀ (k : Nat) (c : Array Value) (t : Nat), t ≠ 45 → W.heap[k]? = some (.cells c t (0, 0)) → W'.heap[k]? = some (.cells c t (0, 0)) := fun k c t ht hk =>
    (hg.block k (Array.getElem?_eq_some_iff.1 hk).1 (fun e => by
      obtain ⟨c', hc'⟩ := hty k e.symm
      rw [hk] at hc'
      injection hc' with hc'
      injection hc' with _ hc'
      exact ht hc')).trans hk
  exact ⟨key _ _ _ (by decide) h1, key _ _ _ (by decide) h2, Kd.R_over' h3 hty (by decide) hg, hb, key _ _ _ (by decide) h5, h6.trans (tr_but v.ownBlock hg.size (fun k e => ⟨hba k e, by
    obtain ⟨c, hc⟩ := hty k e
    exact ⟨c, 45, by decide, hc⟩⟩) (fun k hk hne => hg.block k hk hne))⟩
set_option maxHeartbeats 4000000 in
set_option maxRecDepth 100000 in
theorem word_mk (s : ByteArray) (c : Int) (w : World) : Calls Try.prog 61 #[.agg #[.string s, .int .i64 c]] w fun e w' => e = .returned (.agg #[.string s, .int .i64 (-1), .int .i64 1, .int .u32 (c % 4294967296), .slice none 0 0]) ∧ Below w.heap.size w w' := by
  go_enter Try.func61, Try.ntmps61
  go_wp2
  refine ⟨rfl, .agg #[.string s, .int .i64 (-1), .int .i64 1, .int .u32 (c % 4294967296), .slice none 0 0], ?_, rfl, by repeat (first | exact Below.refl _ _ | apply below_alloc)⟩
  simp [results, Try.f61, go_sem]
def dict_New.f  : Option (List Int × List Int × (List (S45)) × List Int × Int × (List (S92)) × Int × (List (S80)) × Int × ByteArray) := some ([], [], words0, [], 16, [rootN], -1, [], -1, ⟨#[]⟩)
set_option maxHeartbeats 4000000 in
set_option maxRecDepth 100000 in
theorem dict_New.calls  (r1 : List Int) (r2 : List Int) (r3 : List (S45)) (r4 : List Int) (r5 : Int) (r6 : List (S92)) (r7 : Int) (r8 : List (S80)) (r9 : Int) (r10 : ByteArray) (w : World) (h : dict_New.f  = some (r1, r2, r3, r4, r5, r6, r7, r8, r9, r10)) :
    Calls Try.prog 29 #[] w fun e w' => ∃ v0_ v1_ v2_ v3_ v5_ v7_ : Value, e = .returned (.agg #[v0_, v1_, v2_, v3_, .int .u32 r5, v5_, .int .i64 r7, v7_, .int .i64 r9, .string r10]) ∧ Kd.R (Kd.int .u32) 31 w' w.heap.size (fun _ => True) v0_ r1 ∧ Kd.R (Kd.int .u8) 5 w' w.heap.size (fun _ => True) v1_ r2 ∧ Kd.S k45 45 w' w.heap.size (fun _ => True) v2_ r3 ∧ Kd.R (Kd.int .i64) 3 w' w.heap.size (fun _ => True) v3_ r4 ∧ Kd.R k92 92 w' w.heap.size (fun k_ => some k_ ≠ (v0_ : Value).ownBlock ∧ some k_ ≠ (v1_ : Value).ownBlock) v5_ r6 ∧ Kd.S k80 80 w' w.heap.size (fun k_ => some k_ ≠ (v0_ : Value).ownBlock) v7_ r8 ∧ Below w.heap.size w w' := by
  unfold dict_New.f at h
  cases h
  refine (callsIn_wide (n := 3)).1 ?_
  refine callsIn_of_wp_marks Try.func29 rfl trivial ?_ rfl
  simp only [Try.ntmps29, List.size_toArray, List.length_cons, List.length_nil, Nat.reduceAdd, Nat.reduceSub, Array.replicate_succ, Array.replicate_zero, List.push_toArray, List.append_toArray, List.nil_append, List.cons_append]
  gi_wp2_with (refine ⟨trivial, ?_⟩; gi_at_call 60; refine (callsIn_wide.2 (tree_New.calls _ _ rfl)).mono ?_; rintro e w1 ⟨v5, rfl, hR, hb⟩; obtain ⟨A5, c5, e5⟩ := Kd.R_slice hR; simp only [List.length_cons, List.length_nil, Nat.zero_add] at e5; subst e5)
  have hb1 : Below w.heap.size w w1 := (below_alloc (Below.refl _ _) _).trans (hb.mono (by simp))
  have hRr : Kd.R k92 92 w1 w.heap.size (fun k => k < w1.heap.size) (.slice A5 1 c5) [rootN] := Kd.R_mono (Kd.R_bound (Kd.R_lower hR (by simp))) (fun k hk => hk.2.2.1)
  have hz : w1.heap[w.heap.size]? = some (.cells #[.slice none 0 0, .slice none 0 0, .slice none 0 0, .slice none 0 0, .int .u32 0, .slice none 0 0, .int .i64 0, .slice none 0 0, .int .i64 0, .string (⟨#[]⟩ : ByteArray)] 35 (0, 0)) := (hb.block _ (by simp)).trans (heap_new rfl)
  have hlt : w.heap.size < w1.heap.size := (Array.getElem?_eq_some_iff.1 hz).1
  have HB1 := Aside0.mk hb1
  have HR := Aside0.mk hRr
  have HZ := Aside0.mk hz
  clear hb hb1 hR hRr hz
  refine wpIn_rangeFunc_ownH rfl (by omega) (gf := 35) (lb := #[]) rfl trivial (enters_of Try.func35 (by kernel_rfl) rfl)
    (prims_stops 2 w.heap.size (by omega) _) KpT.trans (kpT_b (by simp; omega)) (Below.refl _ _) (fun _ => rfl)
    (fun pre W => ∃ v2, W.heap[w1.heap.size]? = some (.cells #[.slice none 0 0, .slice none 0 0, v2, .slice none 0 0, .int .u32 16, .slice A5 1 c5, .int .i64 (-1), .slice none 0 0, .int .i64 (-1), .string (⟨#[]⟩ : ByteArray)] 35 (0, 0)) ∧ Kd.S k45 45 W w.heap.size (fun _ => True) v2 (pre.map (fun i => wordOf (primAt i.val))) ∧ W.heap[w.heap.size]? = some (.cells #[.slice none 0 0, .slice none 0 0, .slice none 0 0, .slice none 0 0, .int .u32 0, .slice none 0 0, .int .i64 0, .slice none 0 0, .int .i64 0, .string (⟨#[]⟩ : ByteArray)] 35 (0, 0)) ∧ Kd.R k92 92 W w.heap.size (fun k => k < w1.heap.size) (.slice A5 1 c5) [rootN] ∧ Below w.heap.size w W)
    (fun c pre W => False)
    ?hI
    (fun c => fun _ _ _ _ h _ _ => h.elim)
    ?h0
    (fun x a' W => ∃ Bx, W.heap[Bx]? = some (.cells #[.string (primAt x.val).f0, .int .i64 (primAt x.val).f1] 64 (0, 0)) ∧ w1.heap.size < Bx ∧ a' = { tmps := #[.pointer (some ⟨w.heap.size, 0, none⟩), .pointer (some ⟨w1.heap.size, 0, none⟩), undef, .pointer (some ⟨Bx, 0, none⟩), .slice A5 1 c5, .agg #[.slice none 0 0, .slice none 0 0, .slice none 0 0, .slice none 0 0, .int .u32 16, .slice A5 1 c5, .int .i64 (-1), .slice none 0 0, .int .i64 (-1), .string (⟨#[]⟩ : ByteArray)], .int .i64 (x.val : Int), .agg #[.string (primAt x.val).f0, .int .i64 (primAt x.val).f1], undef, undef, undef, undef, undef, undef, undef, undef], defers := [] }) ?hAx ?assign ?body ?done ?stop
  case hI =>
    intro pre A B row hs hg hr
    obtain ⟨v2, h1, h2, h3, h4, h5⟩ := hs
    refine ⟨v2, kept_block h1 hg (fun r e => (hr r e).2), S_owned h2 hg (fun r e => (hr r e).2), kept_block h3 hg (fun r e => (hr r e).2), R_owned h4 hg (fun r e => (hr r e).2), ?_⟩
    exact ownFrom_below (β := Unit) (Nat.le_refl _) (by simp; omega) () A B row h5 hg hr
  case h0 => exact ⟨.slice none 0 0, heap_new rfl, Kd.S_nil _ _ _ _ _, heap_old HZ.out, Kd.R_alloc HR.out _, below_alloc HB1.out _⟩
  case hAx =>
    intro x a'
    exact Own.from (fun s A B row hs hg hr => by
      obtain ⟨Bx, h2, h3, h4⟩ := hs
      exact ⟨Bx, kept_block h2 hg hr, h3, h4⟩) _
  case assign =>
    intro s pre x W K hI hK
    simp only [primEnc]
    have HK := Aside0.mk hK
    have HI := Aside0.mk hI
    clear hK hI
    generalize hy : primAt x.val = y at *
    clear hy
    gi_wp2
    obtain ⟨v2, i1, i2, i3, i4, i5⟩ := HI.out
    refine HK.out _ _ (KeepsFrom.of_below' (below_alloc (Below.refl _ _) _)) (KpT.of_below (below_alloc (Below.refl _ _) _)) ⟨v2, heap_old i1, Kd.S_alloc i2 _, heap_old i3, Kd.R_alloc i4 _, below_alloc i5 _⟩ ⟨W.heap.size, heap_new rfl, (Array.getElem?_eq_some_iff.1 i1).1, rfl⟩
  case body =>
    rintro s pre x a' W hl ⟨r, hr2⟩ ⟨v2, i1, i2, i3, i4, i5⟩ ⟨Bx, hbx, hbl, rfl⟩ hlt
    obtain ⟨L, hL⟩ : ∃ L, pre.map (fun i => wordOf (primAt i.val)) = L := ⟨_, rfl⟩
    rw [hL] at i2
    have HPL := Aside0.mk (show (pre ++ [x]).map (fun i => wordOf (primAt i.val)) = L ++ [wordOf (primAt x.val)] by rw [← hL]; simp)
    have hLm : L.length < 111 := by rw [← hL]; simpa using hlt
    obtain ⟨A2, c2, e2⟩ := Kd.S_slice i2
    subst e2
    generalize hy : primAt x.val = y at *
    have HF : Aside0 (NewF w w1 A5 c5 (.slice A2 L.length c2) Bx y W W) := ⟨i1, i3, i4, i5, hbx, tr_below (Below.refl _ _)⟩
    have HS := Aside0.mk i2
    have HLM := Aside0.mk hLm
    clear hL i1 i2 i3 i4 i5 hbx hlt hy hLm
    gi_wp2
    refine startIn_ (n := 8) (S := fun w' => w'.cell? ⟨w1.heap.size, 2, none⟩ = some (.slice A2 L.length c2) ∧ w'.cell? ⟨Bx, 0, none⟩ = some (.string y.f0) ∧ w'.cell? ⟨Bx, 1, none⟩ = some (.int .i64 y.f1)) (ds := [7]) #[false, false, false, false, false, false, false, false] (by kernel_rfl) rfl rfl (by kernel_rfl) (fun ⟨_, _, h⟩ => h) ⟨cell_in (j := 2) HF.out.1 rfl, cell_in (j := 0) HF.out.2.2.2.2.1 rfl, cell_in (j := 1) HF.out.2.2.2.2.1 rfl⟩ (fun hHeld => ?_)
    obtain ⟨W2, hW2⟩ : ∃ W2, W.drew = W2 := ⟨_, rfl⟩
    have HF2 : Aside0 (NewF w w1 A5 c5 (.slice A2 L.length c2) Bx y W W2) := ⟨by rw [← hW2]; exact HF.out.below (below_drew (Below.refl _ _))⟩
    have HS2 : Aside0 (Kd.S k45 45 W2 w.heap.size (fun _ => True) (.slice A2 L.length c2) L) := ⟨by rw [← hW2]; exact Kd.S_drew HS.out⟩
    rw [hW2] at hHeld ⊢
    clear HF HS hW2
    refine pure_ (i := 0) (N := some 8) (v := ?_) (a' := ?_) #[true, false, false, false, false, false, false, false] rfl rfl (by kernel_rfl) (fun _ _ _ h => h) (Or.inl ⟨by rfl, ?_⟩) ?_ ?_
    rotate_left
    · intro w'
      go_simp
      with_reducible rfl
    rotate_left
    · simp only [Act.put, List.setIfInBounds_toArray, List.set_cons_zero, List.set_cons_succ]
      rfl
    refine take_ (i := 1) (N := some 9) (v := ?_) (a' := ?_) #[true, true, false, false, false, false, false, false] rfl rfl (by kernel_rfl) (fun _ _ _ h => h) (Or.inl ⟨by rfl, ?_⟩) hHeld ?_ ?_
    rotate_left
    · rintro w' ⟨s0, s1, s2⟩
      go_simp
      with_reducible rfl
    rotate_left
    · simp only [Act.put, List.setIfInBounds_toArray, List.set_cons_zero, List.set_cons_succ]
      rfl
    refine take_ (i := 2) (N := some 10) (v := ?_) (a' := ?_) #[true, true, true, false, false, false, false, false] rfl rfl (by kernel_rfl) (fun _ _ _ h => h) (Or.inl ⟨by rfl, ?_⟩) hHeld ?_ ?_
    rotate_left
    · rintro w' ⟨s0, s1, s2⟩
      go_simp
      with_reducible rfl
    rotate_left
    · simp only [Act.put, List.setIfInBounds_toArray, List.set_cons_zero, List.set_cons_succ]
      rfl
    refine one_ (i := 3) (N := some 11) #[true, true, true, true, false, false, false, false] rfl rfl (by kernel_rfl) (by decide) (fun K hK => ?_)
    refine goes_ Try.func61 (by kernel_rfl) rfl #[.agg #[.string y.f0, .int .i64 y.f1]] (by rfl) rfl rfl (by (try simp only [List.map_toArray, List.map_cons, List.map_nil]); rfl) ?_
    refine (word_mk _ _ _).mono ?_
    rintro e W3 ⟨rfl, hb3⟩
    refine ⟨_, rfl, ?_⟩
    have HF3 := Aside0.mk (HF2.out.below hb3)
    have HS3 := Aside0.mk (Kd.S_below HS2.out hb3)
    clear HF2 HS2 hb3
    refine hK.out _ _ ⟨cell_in (j := 2) HF3.out.1 rfl, cell_in (j := 0) HF3.out.2.2.2.2.1 rfl, cell_in (j := 1) HF3.out.2.2.2.2.1 rfl⟩ (fun hHeld => ?_)
    clear hK K
    refine norm_ (a' := ?_) ?_ ?_
    rotate_left
    · show Act.put _ (some 11) _ = _
      simp only [Act.put, List.setIfInBounds_toArray, List.set_cons_zero, List.set_cons_succ]
      rfl
    refine one_ (i := 4) (N := some 12) #[true, true, true, true, true, false, false, false] rfl rfl (by kernel_rfl) (by decide) (fun K hK => ?_)
    refine value_ (w1 := ?_) (v := ?_) (by rfl) rfl ?_ ?_
    rotate_left 2
    · go_simp
      constructor
      · rfl
      · rfl
    have HF4 := Aside0.mk (HF3.out.below (below_alloc (Below.refl _ _) (.cells #[.string y.f0, .int .i64 (-1), .int .i64 1, .int .u32 (y.f1 % 4294967296), .slice none 0 0] 45)))
    refine hK.out _ _ ⟨cell_in (j := 2) HF4.out.1 rfl, cell_in (j := 0) HF4.out.2.2.2.2.1 rfl, cell_in (j := 1) HF4.out.2.2.2.2.1 rfl⟩ (fun hHeld => ?_)
    clear hK K
    refine norm_ (a' := ?_) ?_ ?_
    rotate_left
    · show Act.put _ (some 12) _ = _
      simp only [Act.put, List.setIfInBounds_toArray, List.set_cons_zero, List.set_cons_succ]
      rfl
    refine one_ (i := 5) (N := some 13) #[true, true, true, true, true, true, false, false] rfl rfl (by kernel_rfl) (by decide) (fun K hK => ?_)
    refine Kd.S_append_step k45 (w0 := w) w.heap.size (by rfl) (.tmp 9) (.tmp 12) 29 45 (.agg #[(.string ⟨#[]⟩), (.int .i64 0), (.int .i64 0), (.int .u32 0), (.slice none 0 0)]) 64 rfl Try.underlying29 info45 rfl (by decide) (by omega) (.slice A2 L.length c2) L (wordOf y) [.string y.f0, .int .i64 (-1), .int .i64 1, .int .u32 (y.f1 % 4294967296), .slice none 0 0] (fun _ => True) (fun _ => False) rfl rfl ?aP (fun _ h => h.elim) (fun _ _ => trivial) ?aO ?aB ?aS ?aL ?_
    case aP => exact k45_mkM _ _ _ (wordOf y) (Kd.R_nil _ _ _ _ _)
    case aO => exact Kd.S_mono HS3.out (fun _ _ => ⟨trivial, fun h => h⟩)
    case aB => exact HF3.out.2.2.2.1
    case aS => exact HF3.out.2.2.2.1.size
    case aL => have := HLM.out; omega
    intro v1 W5 ho hb hg hat
    have HF5 := Aside0.mk (HF3.out.grown (Kd.S_typed HS3.out) (Kd.S_base HS3.out) hg hb)
    obtain ⟨L2, hL2⟩ : ∃ L2, L ++ [wordOf y] = L2 := ⟨_, rfl⟩
    rw [hL2] at ho
    have HPL2 := Aside0.mk (HPL.out.trans hL2)
    clear hL2
    have HS5 := Aside0.mk ho
    clear HF3 HS3 HF4 ho hb hg hat
    refine hK.out _ _ ⟨cell_in (j := 2) HF5.out.1 rfl, cell_in (j := 0) HF5.out.2.2.2.2.1 rfl, cell_in (j := 1) HF5.out.2.2.2.2.1 rfl⟩ (fun hHeld => ?_)
    clear hK K
    refine norm_ (a' := ?_) ?_ ?_
    rotate_left
    · show Act.put _ (some 13) _ = _
      simp only [Act.put, List.setIfInBounds_toArray, List.set_cons_zero, List.set_cons_succ]
      rfl
    refine pure_ (i := 6) (N := some 14) (v := ?_) (a' := ?_) #[true, true, true, true, true, true, true, false] rfl rfl (by kernel_rfl) (fun _ _ _ h => h) (Or.inl ⟨by rfl, ?_⟩) ?_ ?_
    rotate_left
    · intro w'
      go_simp
      with_reducible rfl
    rotate_left
    · simp only [Act.put, List.setIfInBounds_toArray, List.set_cons_zero, List.set_cons_succ]
      rfl
    refine last_ (i := 7) (N := none) #[true, true, true, true, true, true, true, true] rfl rfl (by kernel_rfl) (by decide) (fun K hK => ?_)
    have hs := cell_in (j := 2) HF5.out.1 rfl
    have hfs := frozen_in (j := 2) HF5.out.1
    obtain ⟨A6, c6, e6⟩ := Kd.S_slice HS5.out
    subst e6
    refine skip_ (w1 := ?_) (by rfl) rfl ?_ ?_
    rotate_left
    · go_simp
      rfl
    refine hK.out _ _ ?_
    clear hK K
    refine done_ (by kernel_rfl) ?_
    obtain ⟨f1, f2, f3, f4, f5, f6⟩ := HF5.out
    have hn1 : w.heap.size ≠ w1.heap.size := by omega
    have ht := f6.trans (tr_but (B := W5.setCell ⟨w1.heap.size, 2, none⟩ (.slice A6 L2.length c6)) (some w1.heap.size) (by simp) (fun k e => by cases e; exact ⟨by omega, _, 35, by decide, f1⟩) (fun k hk hne => Below.heap_setCell _ _ _ _ (fun e => hne (by rw [e]))))
    refine ⟨ht.1.from _, ht.2, .slice A6 L2.length c6, blk_put f1 2 _ rfl, ?_, (Below.heap_setCell _ _ _ _ hn1).trans f2, ?_, f4.setCell (by show w.heap.size ≤ w1.heap.size; omega) _⟩
    · rw [HPL2.out]
      exact Kd.S_set HS5.out f1 (by decide) 2 _
    · exact Kd.R_set f3 f1 (by decide) 2 _
  case done =>
    rintro D ys W hD rfl ⟨v2, i1, i2, i3, i4, i5⟩ hK
    obtain ⟨L, hL⟩ : ∃ L, (List.finRange 111).map (fun i => wordOf (primAt i.val)) = L := ⟨_, rfl⟩
    rw [hL] at i2
    have HL : Aside0 (words0 = L) := ⟨hL⟩
    obtain ⟨A2, c2, e2⟩ := Kd.S_slice i2
    subst e2
    clear hL
    have cc0 := cell_in (j := 0) i1 rfl
    have zz0 := cell_in (j := 0) i3 rfl
    have ff0 := frozen_in (j := 0) i3
    have cc1 := cell_in (j := 1) i1 rfl
    have zz1 := cell_in (j := 1) i3 rfl
    have ff1 := frozen_in (j := 1) i3
    have cc2 := cell_in (j := 2) i1 rfl
    have zz2 := cell_in (j := 2) i3 rfl
    have ff2 := frozen_in (j := 2) i3
    have cc3 := cell_in (j := 3) i1 rfl
    have zz3 := cell_in (j := 3) i3 rfl
    have ff3 := frozen_in (j := 3) i3
    have cc4 := cell_in (j := 4) i1 rfl
    have zz4 := cell_in (j := 4) i3 rfl
    have ff4 := frozen_in (j := 4) i3
    have cc5 := cell_in (j := 5) i1 rfl
    have zz5 := cell_in (j := 5) i3 rfl
    have ff5 := frozen_in (j := 5) i3
    have cc6 := cell_in (j := 6) i1 rfl
    have zz6 := cell_in (j := 6) i3 rfl
    have ff6 := frozen_in (j := 6) i3
    have cc7 := cell_in (j := 7) i1 rfl
    have zz7 := cell_in (j := 7) i3 rfl
    have ff7 := frozen_in (j := 7) i3
    have cc8 := cell_in (j := 8) i1 rfl
    have zz8 := cell_in (j := 8) i3 rfl
    have ff8 := frozen_in (j := 8) i3
    have cc9 := cell_in (j := 9) i1 rfl
    have zz9 := cell_in (j := 9) i3 rfl
    have ff9 := frozen_in (j := 9) i3
    have HK := Aside0.mk hK
    have HD := Aside0.mk hD
    have I1 := Aside0.mk i1
    have I2 := Aside0.mk i2
    have I3 := Aside0.mk i3
    have I4 := Aside0.mk i4
    have I5 := Aside0.mk i5
    clear hK hD i1 i2 i3 i4 i5
    gi_wp2
    obtain ⟨W2, hW2⟩ : ∃ W2, ((((((((((W.setCell ⟨w.heap.size, 0, none⟩ (.slice none 0 0)).setCell ⟨w.heap.size, 1, none⟩ (.slice none 0 0)).setCell ⟨w.heap.size, 2, none⟩ (.slice A2 L.length c2)).setCell ⟨w.heap.size, 3, none⟩ (.slice none 0 0)).setCell ⟨w.heap.size, 4, none⟩ (.int .u32 16)).setCell ⟨w.heap.size, 5, none⟩ (.slice A5 1 c5)).setCell ⟨w.heap.size, 6, none⟩ (.int .i64 (-1))).setCell ⟨w.heap.size, 7, none⟩ (.slice none 0 0)).setCell ⟨w.heap.size, 8, none⟩ (.int .i64 (-1))).setCell ⟨w.heap.size, 9, none⟩ (.string (⟨#[]⟩ : ByteArray))) = W2 := ⟨_, rfl⟩
    have hfin : W2.heap[w.heap.size]? = some (.cells #[.slice none 0 0, .slice none 0 0, .slice A2 L.length c2, .slice none 0 0, .int .u32 16, .slice A5 1 c5, .int .i64 (-1), .slice none 0 0, .int .i64 (-1), .string (⟨#[]⟩ : ByteArray)] 35 (0, 0)) := by rw [← hW2]; exact (blk_put (blk_put (blk_put (blk_put (blk_put (blk_put (blk_put (blk_put (blk_put (blk_put I3.out 0 _ rfl) 1 _ rfl) 2 _ rfl) 3 _ rfl) 4 _ rfl) 5 _ rfl) 6 _ rfl) 7 _ rfl) 8 _ rfl) 9 _ rfl)
    have hfar : ∀ k, k ≠ w.heap.size → W2.heap[k]? = W.heap[k]? := fun k hk => by rw [← hW2]; exact ((Below.heap_setCell _ ⟨w.heap.size, 9, none⟩ _ k hk).trans ((Below.heap_setCell _ ⟨w.heap.size, 8, none⟩ _ k hk).trans ((Below.heap_setCell _ ⟨w.heap.size, 7, none⟩ _ k hk).trans ((Below.heap_setCell _ ⟨w.heap.size, 6, none⟩ _ k hk).trans ((Below.heap_setCell _ ⟨w.heap.size, 5, none⟩ _ k hk).trans ((Below.heap_setCell _ ⟨w.heap.size, 4, none⟩ _ k hk).trans ((Below.heap_setCell _ ⟨w.heap.size, 3, none⟩ _ k hk).trans ((Below.heap_setCell _ ⟨w.heap.size, 2, none⟩ _ k hk).trans ((Below.heap_setCell _ ⟨w.heap.size, 1, none⟩ _ k hk).trans ((Below.heap_setCell _ ⟨w.heap.size, 0, none⟩ _ k hk).trans rfl))))))))))
    have hbel : Below w.heap.size w W2 := by rw [← hW2]; exact ((((((((((I5.out.setCell (p := ⟨w.heap.size, 0, none⟩) (Nat.le_refl _) _).setCell (p := ⟨w.heap.size, 1, none⟩) (Nat.le_refl _) _).setCell (p := ⟨w.heap.size, 2, none⟩) (Nat.le_refl _) _).setCell (p := ⟨w.heap.size, 3, none⟩) (Nat.le_refl _) _).setCell (p := ⟨w.heap.size, 4, none⟩) (Nat.le_refl _) _).setCell (p := ⟨w.heap.size, 5, none⟩) (Nat.le_refl _) _).setCell (p := ⟨w.heap.size, 6, none⟩) (Nat.le_refl _) _).setCell (p := ⟨w.heap.size, 7, none⟩) (Nat.le_refl _) _).setCell (p := ⟨w.heap.size, 8, none⟩) (Nat.le_refl _) _).setCell (p := ⟨w.heap.size, 9, none⟩) (Nat.le_refl _) _)
    rw [hW2]
    clear hW2 cc0 zz0 ff0 cc1 zz1 ff1 cc2 zz2 ff2 cc3 zz3 ff3 cc4 zz4 ff4 cc5 zz5 ff5 cc6 zz6 ff6 cc7 zz7 ff7 cc8 zz8 ff8 cc9 zz9 ff9
    have hD1 : w1.heap.size < D := by have := HD.out; simp at this; omega
    have hKD : W2.heap[D]? = some (.deferred (some [])) := (hfar D (by omega)).trans HK.out
    have S2 : Kd.S k45 45 W2 w.heap.size (fun _ => True) (.slice A2 L.length c2) L := Kd.S_mono (Kd.S_step (Kd.S_types I2.out I3.out (by decide)) (fun k hk _ => hfar k hk.2)) (fun _ _ => trivial)
    have R2 : Kd.R k92 92 W2 w.heap.size (fun k => k < w1.heap.size) (.slice A5 1 c5) [rootN] := Kd.R_mono (Kd.R_step (Kd.R_types I4.out I3.out (by decide)) (fun k hk _ => hfar k hk.2)) (fun _ h => h.1)
    have hr : ∀ r, some D = some r → ∃ o : Obj, W2.heap[r]? = some o ∧ o.isCells = false := fun r e => by cases e; exact ⟨_, hKD, rfl⟩
    refine ⟨by simp, .inl ⟨_, _, rfl, run_takeDeferred hKD, ?_⟩⟩
    have d0 := cell_kept (cell_in (j := 0) hfin rfl) (grownBy_putObj' W2 D (.deferred none)) (fun r e => by cases e; exact ⟨_, hKD, rfl⟩)
    have d1 := cell_kept (cell_in (j := 1) hfin rfl) (grownBy_putObj' W2 D (.deferred none)) (fun r e => by cases e; exact ⟨_, hKD, rfl⟩)
    have d2 := cell_kept (cell_in (j := 2) hfin rfl) (grownBy_putObj' W2 D (.deferred none)) (fun r e => by cases e; exact ⟨_, hKD, rfl⟩)
    have d3 := cell_kept (cell_in (j := 3) hfin rfl) (grownBy_putObj' W2 D (.deferred none)) (fun r e => by cases e; exact ⟨_, hKD, rfl⟩)
    have d4 := cell_kept (cell_in (j := 4) hfin rfl) (grownBy_putObj' W2 D (.deferred none)) (fun r e => by cases e; exact ⟨_, hKD, rfl⟩)
    have d5 := cell_kept (cell_in (j := 5) hfin rfl) (grownBy_putObj' W2 D (.deferred none)) (fun r e => by cases e; exact ⟨_, hKD, rfl⟩)
    have d6 := cell_kept (cell_in (j := 6) hfin rfl) (grownBy_putObj' W2 D (.deferred none)) (fun r e => by cases e; exact ⟨_, hKD, rfl⟩)
    have d7 := cell_kept (cell_in (j := 7) hfin rfl) (grownBy_putObj' W2 D (.deferred none)) (fun r e => by cases e; exact ⟨_, hKD, rfl⟩)
    have d8 := cell_kept (cell_in (j := 8) hfin rfl) (grownBy_putObj' W2 D (.deferred none)) (fun r e => by cases e; exact ⟨_, hKD, rfl⟩)
    have d9 := cell_kept (cell_in (j := 9) hfin rfl) (grownBy_putObj' W2 D (.deferred none)) (fun r e => by cases e; exact ⟨_, hKD, rfl⟩)
    refine ⟨.agg #[.slice none 0 0, .slice none 0 0, .slice A2 L.length c2, .slice none 0 0, .int .u32 16, .slice A5 1 c5, .int .i64 (-1), .slice none 0 0, .int .i64 (-1), .string (⟨#[]⟩ : ByteArray)], ?_, _, _, _, _, _, _, rfl, Kd.R_nil _ _ _ _ _, Kd.R_nil _ _ _ _ _, ?_, Kd.R_nil _ _ _ _ _, Kd.R_mono (R_owned R2 (grownBy_putObj' W2 D (.deferred none)) hr) (fun _ _ => ⟨by simp [Value.ownBlock], by simp [Value.ownBlock]⟩), Kd.S_nil _ _ _ _ _, hbel.trans (belowK_b (w := w) (Nat.le_refl _) _ D _ _ (by omega) hKD rfl rfl)⟩
    · simp [results, Try.f29, go_sem, d0, d1, d2, d3, d4, d5, d6, d7, d8, d9]
    · rw [HL.out]
      exact S_owned S2 (grownBy_putObj' W2 D (.deferred none)) hr
  case stop =>
    rintro D c pre W hD hpre h hK
    exact h.elim
end Go.Proofs.Ytpalbpakeokimaa.PK
