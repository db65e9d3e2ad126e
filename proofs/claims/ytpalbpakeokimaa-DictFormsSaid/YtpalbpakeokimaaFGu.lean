/- tinder: a part of the proof, joined and pruned by wip/tools/prune.py out of: Gu -/
import Derived.Test.YtpalbpakeokimaaFGm
namespace Go.Proofs.Ytpalbpakeokimaa.PK
set_option linter.unusedVariables false
set_option linter.unusedSimpArgs false
open Go.RowKit Go.Proofs.YtpalbpakeokimaaW.PrintWords Go.Proofs.YtpalbpakeokimaaW.PrintLast Go.Proofs.YtpalbpakeokimaaW.PrintMore
open Go.Shelf
attribute [local go_sem] Oper.semAt_some
def okW (z : S45) (y : S64) : Bool := z.f0.toList == y.f0.toList && z.f1 == -1 && z.f2 == 1 && z.f3 == y.f1 % 4294967296 && decide ((z.f4.length : Int) ≤ 0)
theorem okW_true {z : S45} {y : S64} (h0 : z.f0.toList = y.f0.toList) (h1 : z.f1 = -1) (h2 : z.f2 = 1) (h3 : z.f3 = y.f1 % 4294967296) (h4 : ¬ 0 < z.f4.length) : okW z y = true := by
  unfold okW
  rw [decide_eq_true (show (z.f4.length : Int) ≤ 0 by omega), h0, h1, h2, h3]
  simp
theorem okW_f0 {z : S45} {y : S64} (h : ¬ z.f0.toList = y.f0.toList) : okW z y = false := by unfold okW; simp [h]
theorem okW_f1 {z : S45} {y : S64} (h : ¬ z.f1 = -1) : okW z y = false := by unfold okW; simp [h]
theorem okW_f2 {z : S45} {y : S64} (h : ¬ z.f2 = 1) : okW z y = false := by unfold okW; simp [h]
theorem okW_f3 {z : S45} {y : S64} (h : ¬ z.f3 = y.f1 % 4294967296) : okW z y = false := by unfold okW; simp [h]
theorem okW_f4 {z : S45} {y : S64} (h : 0 < z.f4.length) : okW z y = false := by
  unfold okW
  rw [decide_eq_false (show ¬ (z.f4.length : Int) ≤ 0 by omega)]
  simp
def okAll (l : List S45) : Bool := (List.finRange 111).all fun i => okW (l.getD i.val z45) (primAt i.val)
noncomputable def rightO (n : Int) (t : List S92) (x : S45) : Option Bool := anyK fun k => dict_right.f k x.f0 x.f1 x.f2 x.f3 x.f4 n t
noncomputable def restO (l : List S45) (t : List S92) : Option Bool := if (l.drop 111).all (fun x => (rightO (l.length : Int) t x).isSome) then some (!((l.drop 111).any fun x => !((rightO (l.length : Int) t x) == some true))) else none
noncomputable def dict_wordsRight.f (l0_0 : List Int) (l0_1 : List Int) (l0_2 : List (S45)) (l0_3 : List Int) (a0_4 : Int) (l0_5 : List (S92)) (a0_6 : Int) (l0_7 : List (S80)) (a0_8 : Int) (a0_9 : ByteArray) : Option (Bool) := if 640 < l0_2.length ∨ l0_2.length < 111 then some false else if okAll l0_2 = true then restO l0_2 l0_5 else some false
def WrF (w : World) (M : Array Value) (Bx : Nat) (y : S64) (W0 W : World) : Prop :=
  W.heap[w.heap.size]? = some (.cells M 35 (0, 0)) ∧ W.heap[w.heap.size + 1]? = some (.cells #[.bool false] 4 (0, 0)) ∧ W.heap[Bx]? = some (.cells #[.string y.f0, .int .i64 y.f1] 64 (0, 0)) ∧ Below w.heap.size w W ∧ Tr w.heap.size W0 W
theorem WrF.below {w : World} {M : Array Value} {Bx : Nat} {y : S64} {W0 W W' : World} (h : WrF w M Bx y W0 W) (hb : Below W.heap.size W W') : WrF w M Bx y W0 W' := by
  obtain ⟨h1, h2, h3, h4, h5⟩ := h
  exact ⟨(hb.block _ (Array.getElem?_eq_some_iff.1 h1).1).trans h1, (hb.block _ (Array.getElem?_eq_some_iff.1 h2).1).trans h2, (hb.block _ (Array.getElem?_eq_some_iff.1 h3).1).trans h3, below_then h4 h4.size hb, h5.trans (tr_below hb)⟩
set_option maxHeartbeats 8000000 in
set_option maxRecDepth 100000 in
theorem dict_wordsRight.calls (A0_0 : Option Addr) (c0_0 : Nat) (l0_0 : List Int) (A0_1 : Option Addr) (c0_1 : Nat) (l0_1 : List Int) (A0_2 : Option Addr) (c0_2 : Nat) (l0_2 : List (S45)) (A0_3 : Option Addr) (c0_3 : Nat) (l0_3 : List Int) (a0_4 : Int) (A0_5 : Option Addr) (c0_5 : Nat) (l0_5 : List (S92)) (a0_6 : Int) (A0_7 : Option Addr) (c0_7 : Nat) (l0_7 : List (S80)) (a0_8 : Int) (a0_9 : ByteArray) (r : Bool) (w : World) (hr0_0 : Kd.C (Kd.int .u32) w A0_0 l0_0.length l0_0) (hc0_0 : l0_0.length ≤ c0_0) (hr0_1 : Kd.C (Kd.int .u8) w A0_1 l0_1.length l0_1) (hc0_1 : l0_1.length ≤ c0_1) (hr0_2 : Kd.C k45 w A0_2 l0_2.length l0_2) (hc0_2 : l0_2.length ≤ c0_2) (hr0_3 : Kd.C (Kd.int .i64) w A0_3 l0_3.length l0_3) (hc0_3 : l0_3.length ≤ c0_3) (hr0_5 : Kd.C k92 w A0_5 l0_5.length l0_5) (hc0_5 : l0_5.length ≤ c0_5) (hr0_7 : Kd.C k80 w A0_7 l0_7.length l0_7) (hc0_7 : l0_7.length ≤ c0_7) (h : dict_wordsRight.f l0_0 l0_1 l0_2 l0_3 a0_4 l0_5 a0_6 l0_7 a0_8 a0_9 = some r) :
    Calls Try.prog 40 #[.agg #[.slice A0_0 l0_0.length c0_0, .slice A0_1 l0_1.length c0_1, .slice A0_2 l0_2.length c0_2, .slice A0_3 l0_3.length c0_3, .int .u32 a0_4, .slice A0_5 l0_5.length c0_5, .int .i64 a0_6, .slice A0_7 l0_7.length c0_7, .int .i64 a0_8, .string a0_9]] w fun e w' => e = .returned (.bool r) ∧ Below w.heap.size w w' := by
  unfold dict_wordsRight.f at h
  clear hr0_0 hr0_1 hr0_3 hr0_7 hc0_0 hc0_1 hc0_3 hc0_7
  refine (callsIn_wide (n := 3)).1 ?_
  refine callsIn_of_wp_marks Try.func40 rfl trivial ?_ rfl
  simp only [Try.ntmps40, List.size_toArray, List.length_cons, List.length_nil, Nat.reduceAdd, Nat.reduceSub, Array.replicate_succ, Array.replicate_zero, List.push_toArray, List.append_toArray, List.nil_append, List.cons_append]
  by_cases hbig : 640 < l0_2.length
  · have d1 : decide (640 < (l0_2.length : Int)) = true := decide_eq_true (by omega)
    rw [if_pos (Or.inl hbig)] at h
    obtain rfl := Option.some.inj h
    clear h hbig hr0_2 hc0_2 hr0_5 hc0_5
    gi_wp2
    refine ⟨.bool false, ?_, rfl, by repeat (first | exact Below.refl _ _ | apply below_alloc)⟩
    simp [results, Try.f40, go_sem]
  have d1 : decide (640 < (l0_2.length : Int)) = false := decide_eq_false (by omega)
  by_cases hsm : l0_2.length < 111
  · have d2 : decide ((l0_2.length : Int) < 111) = true := decide_eq_true (by omega)
    rw [if_pos (Or.inr hsm)] at h
    obtain rfl := Option.some.inj h
    clear h hbig hsm hr0_2 hc0_2 hr0_5 hc0_5
    gi_wp2
    refine ⟨.bool false, ?_, rfl, by repeat (first | exact Below.refl _ _ | apply below_alloc)⟩
    simp [results, Try.f40, go_sem]
  have d2 : decide ((l0_2.length : Int) < 111) = false := decide_eq_false (by omega)
  rw [if_neg (by omega)] at h
  have H := Aside0.mk h
  have HR2 := Aside0.mk hr0_2
  have HC2 := Aside0.mk hc0_2
  have HR5 := Aside0.mk hr0_5
  have HC5 := Aside0.mk hc0_5
  have HBIG := Aside0.mk hbig
  have HSM := Aside0.mk hsm
  clear h hr0_2 hc0_2 hr0_5 hc0_5 hbig hsm
  gi_wp2
  refine wpIn_rangeFunc_ownH rfl (by omega) (gf := 35) (lb := #[]) rfl trivial (enters_of Try.func35 (by kernel_rfl) rfl)
    (prims_stops 2 w.heap.size (by omega) _) KpT.trans (kpT_b (by simp; omega)) (Below.refl _ _) (fun _ => rfl)
    (fun pre W => (∀ j ∈ pre, okW (l0_2.getD j.val z45) (primAt j.val) = true) ∧ W.heap[w.heap.size]? = some (.cells #[.slice A0_0 l0_0.length c0_0, .slice A0_1 l0_1.length c0_1, .slice A0_2 l0_2.length c0_2, .slice A0_3 l0_3.length c0_3, .int .u32 a0_4, .slice A0_5 l0_5.length c0_5, .int .i64 a0_6, .slice A0_7 l0_7.length c0_7, .int .i64 a0_8, .string a0_9] 35 (0, 0)) ∧ W.heap[w.heap.size + 1]? = some (.cells #[.bool false] 4 (0, 0)) ∧ Below w.heap.size w W)
    (fun c pre W => c = .ret ∧ (∃ j : Fin 111, okW (l0_2.getD j.val z45) (primAt j.val) = false) ∧ W.heap[w.heap.size + 1]? = some (.cells #[.bool false] 4 (0, 0)) ∧ Below w.heap.size w W)
    ?hI ?hIx ?h0
    (fun x a' W => ∃ Bx, W.heap[Bx]? = some (.cells #[.string (primAt x.val).f0, .int .i64 (primAt x.val).f1] 64 (0, 0)) ∧ w.heap.size + 1 < Bx ∧ a' = { tmps := #[.agg #[.slice A0_0 l0_0.length c0_0, .slice A0_1 l0_1.length c0_1, .slice A0_2 l0_2.length c0_2, .slice A0_3 l0_3.length c0_3, .int .u32 a0_4, .slice A0_5 l0_5.length c0_5, .int .i64 a0_6, .slice A0_7 l0_7.length c0_7, .int .i64 a0_8, .string a0_9], .pointer (some ⟨w.heap.size, 0, none⟩), .pointer (some ⟨w.heap.size + 1, 0, none⟩), .int .i64 (x.val : Int), .pointer (some ⟨Bx, 0, none⟩), undef, undef, .pointer (some ⟨w.heap.size, 2, none⟩), .slice A0_2 l0_2.length c0_2, .int .i64 (l0_2.length : Int), .bool false, .bool false, .pointer (some ⟨w.heap.size, 2, none⟩), .slice A0_2 l0_2.length c0_2, .int .i64 (l0_2.length : Int), .bool false, .bool false, .int .i64 (x.val : Int), .agg #[.string (primAt x.val).f0, .int .i64 (primAt x.val).f1], undef, undef, undef, undef, undef, undef, undef, undef, undef, undef, undef, undef, undef, undef, undef, undef, undef, undef, undef, undef, undef, undef, undef, undef, undef, undef, undef, undef, undef, undef, undef, undef, undef, undef, undef, undef, undef, undef, undef, undef, undef, undef, undef, undef, undef], defers := [] }) ?hAx ?assign ?body ?done ?stop
  case hI =>
    intro pre A B row hs hg hr
    obtain ⟨h1, h2, h3, h4⟩ := hs
    exact ⟨h1, kept_block h2 hg (fun r e => (hr r e).2), kept_block h3 hg (fun r e => (hr r e).2), ownFrom_below (β := Unit) (Nat.le_refl _) (by simp; omega) () A B row h4 hg hr⟩
  case hIx =>
    intro c pre A B row hs hg hr
    obtain ⟨h1, h2, h3, h4⟩ := hs
    exact ⟨h1, h2, kept_block h3 hg (fun r e => (hr r e).2), ownFrom_below (β := Unit) (Nat.le_refl _) (by simp; omega) () A B row h4 hg hr⟩
  case h0 => exact ⟨by simp, heap_old (heap_new rfl), heap_new (by simp), below_alloc (below_alloc (Below.refl _ _) _) _⟩
  case hAx =>
    intro x a'
    exact Own.from (fun s A B row hs hg hr => by
      obtain ⟨Bx, h2, h3, h4⟩ := hs
      exact ⟨Bx, kept_block h2 hg hr, h3, h4⟩) _
  case assign =>
    intro s pre x W K hI hK
    simp only [primEnc]
    have HK := Aside0.mk hK
    have HI := Aside0.mk hI
    clear hK hI
    generalize hy : primAt x.val = y at *
    clear hy
    gi_wp2
    obtain ⟨i1, i2, i3, i4⟩ := HI.out
    refine HK.out _ _ (KeepsFrom.of_below' (below_alloc (Below.refl _ _) _)) (KpT.of_below (below_alloc (Below.refl _ _) _)) ⟨i1, heap_old i2, heap_old i3, below_alloc i4 _⟩ ⟨W.heap.size, heap_new rfl, (Array.getElem?_eq_some_iff.1 i3).1, rfl⟩
  case body =>
    rintro s pre x a' W hl ⟨r, hr2⟩ ⟨i1, i2, i3, i4⟩ ⟨Bx, hbx, hbl, rfl⟩ hlt
    have hx0 : (0 : Int) ≤ (x.val : Int) := by omega
    have hx1 : (x.val : Int) < (l0_2.length : Int) := by have := HSM.out; have := x.isLt; omega
    obtain ⟨ad, A4_, c4_, e1, h0, h1, h2, h3, h4, hl4, hi4⟩ := at_T45 HR2.out (x.val : Int) hx0 hx1
    cases e1
    simp only [Int.toNat_natCast] at h0 h1 h2 h3 h4
    have hz : rd_T45 l0_2 (x.val : Int) = l0_2.getD x.val z45 := by simp [rd_T45]
    rw [hz] at h0 h1 h2 h3 h4
    have hz2 : ∃ z, l0_2.getD x.val z45 = z := ⟨_, rfl⟩
    obtain ⟨z, hz2⟩ := hz2
    rw [hz2] at h0 h1 h2 h3 h4
    obtain ⟨y, hy⟩ : ∃ y, primAt x.val = y := ⟨_, rfl⟩
    rw [hy] at hbx ⊢
    have HZ := Aside0.mk hz2
    have HY := Aside0.mk hy
    have HPRE := Aside0.mk i1
    have HF : Aside0 (WrF w #[.slice A0_0 l0_0.length c0_0, .slice A0_1 l0_1.length c0_1, .slice (some ad) l0_2.length c0_2, .slice A0_3 l0_3.length c0_3, .int .u32 a0_4, .slice A0_5 l0_5.length c0_5, .int .i64 a0_6, .slice A0_7 l0_7.length c0_7, .int .i64 a0_8, .string a0_9] Bx y W W) := ⟨i2, i3, hbx, i4, tr_below (Below.refl _ _)⟩
    have X0 := Aside0.mk h0
    have X1 := Aside0.mk h1
    have X2 := Aside0.mk h2
    have X3 := Aside0.mk h3
    have X4 := Aside0.mk h4
    have p0 := eq_true hx0
    have p1 := eq_true hx1
    clear i1 i2 i3 i4 hbx hlt hz hz2 hy h0 h1 h2 h3 h4 hl4 hi4 hx0 hx1
    gi_wp2
    refine startIn_ (n := 11) (S := fun w' => w'.cell? ⟨w.heap.size, 2, none⟩ = some (.slice (some ad) l0_2.length c0_2) ∧ w'.cell? (ad.add (x.val * 5)) = some (.string z.f0) ∧ w'.cell? ⟨(ad.add (x.val * 5)).block, (ad.add (x.val * 5)).off + 1, none⟩ = some (.int .i64 z.f1) ∧ w'.cell? ⟨(ad.add (x.val * 5)).block, (ad.add (x.val * 5)).off + 2, none⟩ = some (.int .i64 z.f2) ∧ w'.cell? ⟨(ad.add (x.val * 5)).block, (ad.add (x.val * 5)).off + 3, none⟩ = some (.int .u32 z.f3) ∧ w'.cell? ⟨(ad.add (x.val * 5)).block, (ad.add (x.val * 5)).off + 4, none⟩ = some (.slice A4_ z.f4.length c4_) ∧ w'.cell? ⟨Bx, 0, none⟩ = some (.string y.f0) ∧ w'.cell? ⟨Bx, 1, none⟩ = some (.int .i64 y.f1)) (ds := [9, 10]) #[false, false, false, false, false, false, false, false, false, false, false] (by kernel_rfl) rfl rfl (by kernel_rfl) (fun ⟨_, _, h⟩ => h) ⟨cell_in (j := 2) HF.out.1 rfl, (HF.out.2.2.2.1.cell (World.block_lt_of_cell? w _ X0.out)).trans X0.out, (HF.out.2.2.2.1.cell (World.block_lt_of_cell? w _ X1.out)).trans X1.out, (HF.out.2.2.2.1.cell (World.block_lt_of_cell? w _ X2.out)).trans X2.out, (HF.out.2.2.2.1.cell (World.block_lt_of_cell? w _ X3.out)).trans X3.out, (HF.out.2.2.2.1.cell (World.block_lt_of_cell? w _ X4.out)).trans X4.out, cell_in (j := 0) HF.out.2.2.1 rfl, cell_in (j := 1) HF.out.2.2.1 rfl⟩ (fun hHeld => ?_)
    obtain ⟨W2, hW2⟩ : ∃ W2, W.drew = W2 := ⟨_, rfl⟩
    have HF2 : Aside0 (WrF w #[.slice A0_0 l0_0.length c0_0, .slice A0_1 l0_1.length c0_1, .slice (some ad) l0_2.length c0_2, .slice A0_3 l0_3.length c0_3, .int .u32 a0_4, .slice A0_5 l0_5.length c0_5, .int .i64 a0_6, .slice A0_7 l0_7.length c0_7, .int .i64 a0_8, .string a0_9] Bx y W W2) := ⟨by rw [← hW2]; exact HF.out.below (below_drew (Below.refl _ _))⟩
    rw [hW2] at hHeld ⊢
    clear HF hW2
    refine pure_ (i := 0) (N := some 19) (v := ?_) (a' := ?_) #[true, false, false, false, false, false, false, false, false, false, false] rfl rfl (by kernel_rfl) (fun _ _ _ h => h) (Or.inl ⟨by rfl, ?_⟩) ?_ ?_
    rotate_left
    · intro w'
      go_simp
      with_reducible rfl
    rotate_left
    · simp only [Act.put, List.setIfInBounds_toArray, List.set_cons_zero, List.set_cons_succ]
      rfl
    refine take_ (i := 1) (N := some 20) (v := ?_) (a' := ?_) #[true, true, false, false, false, false, false, false, false, false, false] rfl rfl (by kernel_rfl) (fun _ _ _ h => h) (Or.inl ⟨by rfl, ?_⟩) hHeld ?_ ?_
    rotate_left
    · rintro w' ⟨s0, s1, s2, s3, s4, s5, s6, s7⟩
      go_simp
      with_reducible rfl
    rotate_left
    · simp only [Act.put, List.setIfInBounds_toArray, List.set_cons_zero, List.set_cons_succ]
      rfl
    refine pure_ (i := 2) (N := some 21) (v := ?_) (a' := ?_) #[true, true, true, false, false, false, false, false, false, false, false] rfl rfl (by kernel_rfl) (fun _ _ _ h => h) (Or.inl ⟨by rfl, ?_⟩) ?_ ?_
    rotate_left
    · intro w'
      go_simp
      with_reducible rfl
    rotate_left
    · simp only [Act.put, List.setIfInBounds_toArray, List.set_cons_zero, List.set_cons_succ]
      rfl
    refine pure_ (i := 3) (N := some 22) (v := ?_) (a' := ?_) #[true, true, true, true, false, false, false, false, false, false, false] rfl rfl (by kernel_rfl) (fun _ _ _ h => h) (Or.inl ⟨by rfl, ?_⟩) ?_ ?_
    rotate_left
    · intro w'
      go_simp
      with_reducible rfl
    rotate_left
    · simp only [Act.put, List.setIfInBounds_toArray, List.set_cons_zero, List.set_cons_succ]
      rfl
    refine take_ (i := 4) (N := some 23) (v := ?_) (a' := ?_) #[true, true, true, true, true, false, false, false, false, false, false] rfl rfl (by kernel_rfl) (fun _ _ _ h => h) (Or.inl ⟨by rfl, ?_⟩) hHeld ?_ ?_
    rotate_left
    · rintro w' ⟨s0, s1, s2, s3, s4, s5, s6, s7⟩
      go_simp
      with_reducible rfl
    rotate_left
    · simp only [Act.put, List.setIfInBounds_toArray, List.set_cons_zero, List.set_cons_succ]
      rfl
    refine take_ (i := 5) (N := some 24) (v := ?_) (a' := ?_) #[true, true, true, true, true, true, false, false, false, false, false] rfl rfl (by kernel_rfl) (fun _ _ _ h => h) (Or.inl ⟨by rfl, ?_⟩) hHeld ?_ ?_
    rotate_left
    · rintro w' ⟨s0, s1, s2, s3, s4, s5, s6, s7⟩
      go_simp
      with_reducible rfl
    rotate_left
    · simp only [Act.put, List.setIfInBounds_toArray, List.set_cons_zero, List.set_cons_succ]
      rfl
    refine join_ (σ := Nat × Nat) 2 #[true, true, true, true, true, true, true, true, true, false, false] (fun s_ => [(25, .agg #[.string y.f0, .int .i64 (-1), .int .i64 1, .int .u32 (y.f1 % 4294967296), .slice none 0 0]), (5, .pointer (some ⟨s_.1, 0, none⟩)), (6, .pointer (some ⟨s_.2, 0, none⟩))]) (fun s_ w' => WrF w #[.slice A0_0 l0_0.length c0_0, .slice A0_1 l0_1.length c0_1, .slice (some ad) l0_2.length c0_2, .slice A0_3 l0_3.length c0_3, .int .u32 a0_4, .slice A0_5 l0_5.length c0_5, .int .i64 a0_6, .slice A0_7 l0_7.length c0_7, .int .i64 a0_8, .string a0_9] Bx y W w' ∧ (w'.heap[s_.1]? = some (.cells #[.string (⟨#[]⟩ : ByteArray), .int .i64 0, .int .i64 0, .int .u32 0, .slice none 0 0] 45 (0, 0)) ∧ w.heap.size + 1 < s_.1 ∧ s_.1 ≠ Bx) ∧ (w'.heap[s_.2]? = some (.cells #[.string (⟨#[]⟩ : ByteArray), .int .i64 0, .int .i64 0, .int .u32 0, .slice none 0 0] 45 (0, 0)) ∧ w.heap.size + 1 < s_.2 ∧ s_.2 ≠ Bx) ∧ s_.1 ≠ s_.2) ?cont (fun hCont => ?path)
    case path =>
      refine three_ (i := 6) (j := 7) (k := 8) (Ni := some 25) (Nj := some 5) (Nk := some 6) #[true, true, true, true, true, true, true, false, false, false, false] #[true, true, true, true, true, true, false, true, false, false, false] #[true, true, true, true, true, true, false, false, true, false, false] rfl rfl rfl rfl rfl rfl (by kernel_rfl) (by decide) (by decide) (by decide) (fun K hK => ?_) (fun K hK => ?_) (fun K hK => ?_)
      · refine goes_ Try.func61 (by kernel_rfl) rfl #[.agg #[.string y.f0, .int .i64 y.f1]] (by rfl) rfl rfl (by (try simp only [List.map_toArray, List.map_cons, List.map_nil]); rfl) ?_
        refine (word_mk _ _ _).mono ?_
        rintro e V3 ⟨rfl, hb⟩
        refine ⟨_, rfl, ?_⟩
        have HF3_ := Aside0.mk (HF2.out.below hb)
        refine hK.out _ _ ⟨cell_in (j := 2) HF3_.out.1 rfl, (HF3_.out.2.2.2.1.cell (World.block_lt_of_cell? w _ X0.out)).trans X0.out, (HF3_.out.2.2.2.1.cell (World.block_lt_of_cell? w _ X1.out)).trans X1.out, (HF3_.out.2.2.2.1.cell (World.block_lt_of_cell? w _ X2.out)).trans X2.out, (HF3_.out.2.2.2.1.cell (World.block_lt_of_cell? w _ X3.out)).trans X3.out, (HF3_.out.2.2.2.1.cell (World.block_lt_of_cell? w _ X4.out)).trans X4.out, cell_in (j := 0) HF3_.out.2.2.1 rfl, cell_in (j := 1) HF3_.out.2.2.1 rfl⟩ (fun hHeld => ?_)
        clear hK K
        refine norm_ (a' := ?_) ?_ ?_
        rotate_left
        · show Act.put _ (some 25) _ = _
          simp only [Act.put, List.setIfInBounds_toArray, List.set_cons_zero, List.set_cons_succ]
          rfl
        refine two_ (i := 7) (j := 8) (Ni := some 5) (Nj := some 6) #[true, true, true, true, true, true, true, true, false, false, false] #[true, true, true, true, true, true, true, false, true, false, false] rfl rfl rfl rfl (by kernel_rfl) (by decide) (by decide) (fun K hK => ?_) (fun K hK => ?_)
        · refine box_step ?hg (N := 5) ?hd (cs := #[.string (⟨#[]⟩ : ByteArray), .int .i64 0, .int .i64 0, .int .u32 0, .slice none 0 0]) (t := 45) ?hr ?_; (case hd => rfl); (case hg => rfl); (case hr => first | (go_simp; done) | (go_simp; rfl))
          intro g5 hg V4 hbox hb
          have Gg5_4 : Aside0 (V4.heap[g5]? = some (.cells #[.string (⟨#[]⟩ : ByteArray), .int .i64 0, .int .i64 0, .int .u32 0, .slice none 0 0] 45 (0, 0)) ∧ w.heap.size + 1 < g5 ∧ g5 ≠ Bx) := ⟨hbox, by rw [hg]; exact (Array.getElem?_eq_some_iff.1 HF3_.out.2.1).1, by rw [hg]; exact Nat.ne_of_gt (Array.getElem?_eq_some_iff.1 HF3_.out.2.2.1).1⟩
          have HF4_ := Aside0.mk (HF3_.out.below hb)
          refine hK.out _ _ ⟨cell_in (j := 2) HF4_.out.1 rfl, (HF4_.out.2.2.2.1.cell (World.block_lt_of_cell? w _ X0.out)).trans X0.out, (HF4_.out.2.2.2.1.cell (World.block_lt_of_cell? w _ X1.out)).trans X1.out, (HF4_.out.2.2.2.1.cell (World.block_lt_of_cell? w _ X2.out)).trans X2.out, (HF4_.out.2.2.2.1.cell (World.block_lt_of_cell? w _ X3.out)).trans X3.out, (HF4_.out.2.2.2.1.cell (World.block_lt_of_cell? w _ X4.out)).trans X4.out, cell_in (j := 0) HF4_.out.2.2.1 rfl, cell_in (j := 1) HF4_.out.2.2.1 rfl⟩ (fun hHeld => ?_)
          clear hK K
          refine norm_ (a' := ?_) ?_ ?_
          rotate_left
          · show Act.put _ (some 5) _ = _
            simp only [Act.put, List.setIfInBounds_toArray, List.set_cons_zero, List.set_cons_succ]
            rfl
          refine one_ (i := 8) (N := some 6) #[true, true, true, true, true, true, true, true, true, false, false] rfl rfl (by kernel_rfl) (by decide) (fun K hK => ?_)
          refine box_step ?hg (N := 6) ?hd (cs := #[.string (⟨#[]⟩ : ByteArray), .int .i64 0, .int .i64 0, .int .u32 0, .slice none 0 0]) (t := 45) ?hr ?_; (case hd => rfl); (case hg => rfl); (case hr => first | (go_simp; done) | (go_simp; rfl))
          intro g6 hg V5 hbox hb
          have Gg6_5 : Aside0 (V5.heap[g6]? = some (.cells #[.string (⟨#[]⟩ : ByteArray), .int .i64 0, .int .i64 0, .int .u32 0, .slice none 0 0] 45 (0, 0)) ∧ w.heap.size + 1 < g6 ∧ g6 ≠ Bx) := ⟨hbox, by rw [hg]; exact (Array.getElem?_eq_some_iff.1 HF4_.out.2.1).1, by rw [hg]; exact Nat.ne_of_gt (Array.getElem?_eq_some_iff.1 HF4_.out.2.2.1).1⟩
          have NB : Aside0 (g5 ≠ g6) := ⟨by rw [hg]; exact Nat.ne_of_lt (Array.getElem?_eq_some_iff.1 Gg5_4.out.1).1⟩
          have HF5_ := Aside0.mk (HF4_.out.below hb)
          have Gg5_5 : Aside0 (V5.heap[g5]? = some (.cells #[.string (⟨#[]⟩ : ByteArray), .int .i64 0, .int .i64 0, .int .u32 0, .slice none 0 0] 45 (0, 0)) ∧ w.heap.size + 1 < g5 ∧ g5 ≠ Bx) := ⟨(hb.block _ (Array.getElem?_eq_some_iff.1 Gg5_4.out.1).1).trans Gg5_4.out.1, Gg5_4.out.2⟩
          refine hK.out _ _ ⟨cell_in (j := 2) HF5_.out.1 rfl, (HF5_.out.2.2.2.1.cell (World.block_lt_of_cell? w _ X0.out)).trans X0.out, (HF5_.out.2.2.2.1.cell (World.block_lt_of_cell? w _ X1.out)).trans X1.out, (HF5_.out.2.2.2.1.cell (World.block_lt_of_cell? w _ X2.out)).trans X2.out, (HF5_.out.2.2.2.1.cell (World.block_lt_of_cell? w _ X3.out)).trans X3.out, (HF5_.out.2.2.2.1.cell (World.block_lt_of_cell? w _ X4.out)).trans X4.out, cell_in (j := 0) HF5_.out.2.2.1 rfl, cell_in (j := 1) HF5_.out.2.2.1 rfl⟩ (fun hHeld => ?_)
          clear hK K
          refine norm_ (a' := ?_) ?_ ?_
          rotate_left
          · show Act.put _ (some 6) _ = _
            simp only [Act.put, List.setIfInBounds_toArray, List.set_cons_zero, List.set_cons_succ]
            rfl
          exact norm_ (by simp only [putAll, Act.put, List.setIfInBounds_toArray, List.set_cons_zero, List.set_cons_succ]) (hCont (g5, g6) _ ⟨HF5_.out, Gg5_5.out, Gg6_5.out, NB.out⟩)
        · refine box_step ?hg (N := 6) ?hd (cs := #[.string (⟨#[]⟩ : ByteArray), .int .i64 0, .int .i64 0, .int .u32 0, .slice none 0 0]) (t := 45) ?hr ?_; (case hd => rfl); (case hg => rfl); (case hr => first | (go_simp; done) | (go_simp; rfl))
          intro g6 hg V4 hbox hb
          have Gg6_4 : Aside0 (V4.heap[g6]? = some (.cells #[.string (⟨#[]⟩ : ByteArray), .int .i64 0, .int .i64 0, .int .u32 0, .slice none 0 0] 45 (0, 0)) ∧ w.heap.size + 1 < g6 ∧ g6 ≠ Bx) := ⟨hbox, by rw [hg]; exact (Array.getElem?_eq_some_iff.1 HF3_.out.2.1).1, by rw [hg]; exact Nat.ne_of_gt (Array.getElem?_eq_some_iff.1 HF3_.out.2.2.1).1⟩
          have HF4_ := Aside0.mk (HF3_.out.below hb)
          refine hK.out _ _ ⟨cell_in (j := 2) HF4_.out.1 rfl, (HF4_.out.2.2.2.1.cell (World.block_lt_of_cell? w _ X0.out)).trans X0.out, (HF4_.out.2.2.2.1.cell (World.block_lt_of_cell? w _ X1.out)).trans X1.out, (HF4_.out.2.2.2.1.cell (World.block_lt_of_cell? w _ X2.out)).trans X2.out, (HF4_.out.2.2.2.1.cell (World.block_lt_of_cell? w _ X3.out)).trans X3.out, (HF4_.out.2.2.2.1.cell (World.block_lt_of_cell? w _ X4.out)).trans X4.out, cell_in (j := 0) HF4_.out.2.2.1 rfl, cell_in (j := 1) HF4_.out.2.2.1 rfl⟩ (fun hHeld => ?_)
          clear hK K
          refine norm_ (a' := ?_) ?_ ?_
          rotate_left
          · show Act.put _ (some 6) _ = _
            simp only [Act.put, List.setIfInBounds_toArray, List.set_cons_zero, List.set_cons_succ]
            rfl
          refine one_ (i := 7) (N := some 5) #[true, true, true, true, true, true, true, true, true, false, false] rfl rfl (by kernel_rfl) (by decide) (fun K hK => ?_)
          refine box_step ?hg (N := 5) ?hd (cs := #[.string (⟨#[]⟩ : ByteArray), .int .i64 0, .int .i64 0, .int .u32 0, .slice none 0 0]) (t := 45) ?hr ?_; (case hd => rfl); (case hg => rfl); (case hr => first | (go_simp; done) | (go_simp; rfl))
          intro g5 hg V5 hbox hb
          have Gg5_5 : Aside0 (V5.heap[g5]? = some (.cells #[.string (⟨#[]⟩ : ByteArray), .int .i64 0, .int .i64 0, .int .u32 0, .slice none 0 0] 45 (0, 0)) ∧ w.heap.size + 1 < g5 ∧ g5 ≠ Bx) := ⟨hbox, by rw [hg]; exact (Array.getElem?_eq_some_iff.1 HF4_.out.2.1).1, by rw [hg]; exact Nat.ne_of_gt (Array.getElem?_eq_some_iff.1 HF4_.out.2.2.1).1⟩
          have NB : Aside0 (g5 ≠ g6) := ⟨by rw [hg]; exact Nat.ne_of_gt (Array.getElem?_eq_some_iff.1 Gg6_4.out.1).1⟩
          have HF5_ := Aside0.mk (HF4_.out.below hb)
          have Gg6_5 : Aside0 (V5.heap[g6]? = some (.cells #[.string (⟨#[]⟩ : ByteArray), .int .i64 0, .int .i64 0, .int .u32 0, .slice none 0 0] 45 (0, 0)) ∧ w.heap.size + 1 < g6 ∧ g6 ≠ Bx) := ⟨(hb.block _ (Array.getElem?_eq_some_iff.1 Gg6_4.out.1).1).trans Gg6_4.out.1, Gg6_4.out.2⟩
          refine hK.out _ _ ⟨cell_in (j := 2) HF5_.out.1 rfl, (HF5_.out.2.2.2.1.cell (World.block_lt_of_cell? w _ X0.out)).trans X0.out, (HF5_.out.2.2.2.1.cell (World.block_lt_of_cell? w _ X1.out)).trans X1.out, (HF5_.out.2.2.2.1.cell (World.block_lt_of_cell? w _ X2.out)).trans X2.out, (HF5_.out.2.2.2.1.cell (World.block_lt_of_cell? w _ X3.out)).trans X3.out, (HF5_.out.2.2.2.1.cell (World.block_lt_of_cell? w _ X4.out)).trans X4.out, cell_in (j := 0) HF5_.out.2.2.1 rfl, cell_in (j := 1) HF5_.out.2.2.1 rfl⟩ (fun hHeld => ?_)
          clear hK K
          refine norm_ (a' := ?_) ?_ ?_
          rotate_left
          · show Act.put _ (some 5) _ = _
            simp only [Act.put, List.setIfInBounds_toArray, List.set_cons_zero, List.set_cons_succ]
            rfl
          exact norm_ (by simp only [putAll, Act.put, List.setIfInBounds_toArray, List.set_cons_zero, List.set_cons_succ]) (hCont (g5, g6) _ ⟨HF5_.out, Gg5_5.out, Gg6_5.out, NB.out⟩)
      · refine box_step ?hg (N := 5) ?hd (cs := #[.string (⟨#[]⟩ : ByteArray), .int .i64 0, .int .i64 0, .int .u32 0, .slice none 0 0]) (t := 45) ?hr ?_; (case hd => rfl); (case hg => rfl); (case hr => first | (go_simp; done) | (go_simp; rfl))
        intro g5 hg V3 hbox hb
        have Gg5_3 : Aside0 (V3.heap[g5]? = some (.cells #[.string (⟨#[]⟩ : ByteArray), .int .i64 0, .int .i64 0, .int .u32 0, .slice none 0 0] 45 (0, 0)) ∧ w.heap.size + 1 < g5 ∧ g5 ≠ Bx) := ⟨hbox, by rw [hg]; exact (Array.getElem?_eq_some_iff.1 HF2.out.2.1).1, by rw [hg]; exact Nat.ne_of_gt (Array.getElem?_eq_some_iff.1 HF2.out.2.2.1).1⟩
        have HF3_ := Aside0.mk (HF2.out.below hb)
        refine hK.out _ _ ⟨cell_in (j := 2) HF3_.out.1 rfl, (HF3_.out.2.2.2.1.cell (World.block_lt_of_cell? w _ X0.out)).trans X0.out, (HF3_.out.2.2.2.1.cell (World.block_lt_of_cell? w _ X1.out)).trans X1.out, (HF3_.out.2.2.2.1.cell (World.block_lt_of_cell? w _ X2.out)).trans X2.out, (HF3_.out.2.2.2.1.cell (World.block_lt_of_cell? w _ X3.out)).trans X3.out, (HF3_.out.2.2.2.1.cell (World.block_lt_of_cell? w _ X4.out)).trans X4.out, cell_in (j := 0) HF3_.out.2.2.1 rfl, cell_in (j := 1) HF3_.out.2.2.1 rfl⟩ (fun hHeld => ?_)
        clear hK K
        refine norm_ (a' := ?_) ?_ ?_
        rotate_left
        · show Act.put _ (some 5) _ = _
          simp only [Act.put, List.setIfInBounds_toArray, List.set_cons_zero, List.set_cons_succ]
          rfl
        refine two_ (i := 6) (j := 8) (Ni := some 25) (Nj := some 6) #[true, true, true, true, true, true, true, true, false, false, false] #[true, true, true, true, true, true, false, true, true, false, false] rfl rfl rfl rfl (by kernel_rfl) (by decide) (by decide) (fun K hK => ?_) (fun K hK => ?_)
        · refine goes_ Try.func61 (by kernel_rfl) rfl #[.agg #[.string y.f0, .int .i64 y.f1]] (by rfl) rfl rfl (by (try simp only [List.map_toArray, List.map_cons, List.map_nil]); rfl) ?_
          refine (word_mk _ _ _).mono ?_
          rintro e V4 ⟨rfl, hb⟩
          refine ⟨_, rfl, ?_⟩
          have HF4_ := Aside0.mk (HF3_.out.below hb)
          have Gg5_4 : Aside0 (V4.heap[g5]? = some (.cells #[.string (⟨#[]⟩ : ByteArray), .int .i64 0, .int .i64 0, .int .u32 0, .slice none 0 0] 45 (0, 0)) ∧ w.heap.size + 1 < g5 ∧ g5 ≠ Bx) := ⟨(hb.block _ (Array.getElem?_eq_some_iff.1 Gg5_3.out.1).1).trans Gg5_3.out.1, Gg5_3.out.2⟩
          refine hK.out _ _ ⟨cell_in (j := 2) HF4_.out.1 rfl, (HF4_.out.2.2.2.1.cell (World.block_lt_of_cell? w _ X0.out)).trans X0.out, (HF4_.out.2.2.2.1.cell (World.block_lt_of_cell? w _ X1.out)).trans X1.out, (HF4_.out.2.2.2.1.cell (World.block_lt_of_cell? w _ X2.out)).trans X2.out, (HF4_.out.2.2.2.1.cell (World.block_lt_of_cell? w _ X3.out)).trans X3.out, (HF4_.out.2.2.2.1.cell (World.block_lt_of_cell? w _ X4.out)).trans X4.out, cell_in (j := 0) HF4_.out.2.2.1 rfl, cell_in (j := 1) HF4_.out.2.2.1 rfl⟩ (fun hHeld => ?_)
          clear hK K
          refine norm_ (a' := ?_) ?_ ?_
          rotate_left
          · show Act.put _ (some 25) _ = _
            simp only [Act.put, List.setIfInBounds_toArray, List.set_cons_zero, List.set_cons_succ]
            rfl
          refine one_ (i := 8) (N := some 6) #[true, true, true, true, true, true, true, true, true, false, false] rfl rfl (by kernel_rfl) (by decide) (fun K hK => ?_)
          refine box_step ?hg (N := 6) ?hd (cs := #[.string (⟨#[]⟩ : ByteArray), .int .i64 0, .int .i64 0, .int .u32 0, .slice none 0 0]) (t := 45) ?hr ?_; (case hd => rfl); (case hg => rfl); (case hr => first | (go_simp; done) | (go_simp; rfl))
          intro g6 hg V5 hbox hb
          have Gg6_5 : Aside0 (V5.heap[g6]? = some (.cells #[.string (⟨#[]⟩ : ByteArray), .int .i64 0, .int .i64 0, .int .u32 0, .slice none 0 0] 45 (0, 0)) ∧ w.heap.size + 1 < g6 ∧ g6 ≠ Bx) := ⟨hbox, by rw [hg]; exact (Array.getElem?_eq_some_iff.1 HF4_.out.2.1).1, by rw [hg]; exact Nat.ne_of_gt (Array.getElem?_eq_some_iff.1 HF4_.out.2.2.1).1⟩
          have NB : Aside0 (g5 ≠ g6) := ⟨by rw [hg]; exact Nat.ne_of_lt (Array.getElem?_eq_some_iff.1 Gg5_4.out.1).1⟩
          have HF5_ := Aside0.mk (HF4_.out.below hb)
          have Gg5_5 : Aside0 (V5.heap[g5]? = some (.cells #[.string (⟨#[]⟩ : ByteArray), .int .i64 0, .int .i64 0, .int .u32 0, .slice none 0 0] 45 (0, 0)) ∧ w.heap.size + 1 < g5 ∧ g5 ≠ Bx) := ⟨(hb.block _ (Array.getElem?_eq_some_iff.1 Gg5_4.out.1).1).trans Gg5_4.out.1, Gg5_4.out.2⟩
          refine hK.out _ _ ⟨cell_in (j := 2) HF5_.out.1 rfl, (HF5_.out.2.2.2.1.cell (World.block_lt_of_cell? w _ X0.out)).trans X0.out, (HF5_.out.2.2.2.1.cell (World.block_lt_of_cell? w _ X1.out)).trans X1.out, (HF5_.out.2.2.2.1.cell (World.block_lt_of_cell? w _ X2.out)).trans X2.out, (HF5_.out.2.2.2.1.cell (World.block_lt_of_cell? w _ X3.out)).trans X3.out, (HF5_.out.2.2.2.1.cell (World.block_lt_of_cell? w _ X4.out)).trans X4.out, cell_in (j := 0) HF5_.out.2.2.1 rfl, cell_in (j := 1) HF5_.out.2.2.1 rfl⟩ (fun hHeld => ?_)
          clear hK K
          refine norm_ (a' := ?_) ?_ ?_
          rotate_left
          · show Act.put _ (some 6) _ = _
            simp only [Act.put, List.setIfInBounds_toArray, List.set_cons_zero, List.set_cons_succ]
            rfl
          exact norm_ (by simp only [putAll, Act.put, List.setIfInBounds_toArray, List.set_cons_zero, List.set_cons_succ]) (hCont (g5, g6) _ ⟨HF5_.out, Gg5_5.out, Gg6_5.out, NB.out⟩)
        · refine box_step ?hg (N := 6) ?hd (cs := #[.string (⟨#[]⟩ : ByteArray), .int .i64 0, .int .i64 0, .int .u32 0, .slice none 0 0]) (t := 45) ?hr ?_; (case hd => rfl); (case hg => rfl); (case hr => first | (go_simp; done) | (go_simp; rfl))
          intro g6 hg V4 hbox hb
          have Gg6_4 : Aside0 (V4.heap[g6]? = some (.cells #[.string (⟨#[]⟩ : ByteArray), .int .i64 0, .int .i64 0, .int .u32 0, .slice none 0 0] 45 (0, 0)) ∧ w.heap.size + 1 < g6 ∧ g6 ≠ Bx) := ⟨hbox, by rw [hg]; exact (Array.getElem?_eq_some_iff.1 HF3_.out.2.1).1, by rw [hg]; exact Nat.ne_of_gt (Array.getElem?_eq_some_iff.1 HF3_.out.2.2.1).1⟩
          have NB : Aside0 (g5 ≠ g6) := ⟨by rw [hg]; exact Nat.ne_of_lt (Array.getElem?_eq_some_iff.1 Gg5_3.out.1).1⟩
          have HF4_ := Aside0.mk (HF3_.out.below hb)
          have Gg5_4 : Aside0 (V4.heap[g5]? = some (.cells #[.string (⟨#[]⟩ : ByteArray), .int .i64 0, .int .i64 0, .int .u32 0, .slice none 0 0] 45 (0, 0)) ∧ w.heap.size + 1 < g5 ∧ g5 ≠ Bx) := ⟨(hb.block _ (Array.getElem?_eq_some_iff.1 Gg5_3.out.1).1).trans Gg5_3.out.1, Gg5_3.out.2⟩
          refine hK.out _ _ ⟨cell_in (j := 2) HF4_.out.1 rfl, (HF4_.out.2.2.2.1.cell (World.block_lt_of_cell? w _ X0.out)).trans X0.out, (HF4_.out.2.2.2.1.cell (World.block_lt_of_cell? w _ X1.out)).trans X1.out, (HF4_.out.2.2.2.1.cell (World.block_lt_of_cell? w _ X2.out)).trans X2.out, (HF4_.out.2.2.2.1.cell (World.block_lt_of_cell? w _ X3.out)).trans X3.out, (HF4_.out.2.2.2.1.cell (World.block_lt_of_cell? w _ X4.out)).trans X4.out, cell_in (j := 0) HF4_.out.2.2.1 rfl, cell_in (j := 1) HF4_.out.2.2.1 rfl⟩ (fun hHeld => ?_)
          clear hK K
          refine norm_ (a' := ?_) ?_ ?_
          rotate_left
          · show Act.put _ (some 6) _ = _
            simp only [Act.put, List.setIfInBounds_toArray, List.set_cons_zero, List.set_cons_succ]
            rfl
          refine one_ (i := 6) (N := some 25) #[true, true, true, true, true, true, true, true, true, false, false] rfl rfl (by kernel_rfl) (by decide) (fun K hK => ?_)
          refine goes_ Try.func61 (by kernel_rfl) rfl #[.agg #[.string y.f0, .int .i64 y.f1]] (by rfl) rfl rfl (by (try simp only [List.map_toArray, List.map_cons, List.map_nil]); rfl) ?_
          refine (word_mk _ _ _).mono ?_
          rintro e V5 ⟨rfl, hb⟩
          refine ⟨_, rfl, ?_⟩
          have HF5_ := Aside0.mk (HF4_.out.below hb)
          have Gg5_5 : Aside0 (V5.heap[g5]? = some (.cells #[.string (⟨#[]⟩ : ByteArray), .int .i64 0, .int .i64 0, .int .u32 0, .slice none 0 0] 45 (0, 0)) ∧ w.heap.size + 1 < g5 ∧ g5 ≠ Bx) := ⟨(hb.block _ (Array.getElem?_eq_some_iff.1 Gg5_4.out.1).1).trans Gg5_4.out.1, Gg5_4.out.2⟩
          have Gg6_5 : Aside0 (V5.heap[g6]? = some (.cells #[.string (⟨#[]⟩ : ByteArray), .int .i64 0, .int .i64 0, .int .u32 0, .slice none 0 0] 45 (0, 0)) ∧ w.heap.size + 1 < g6 ∧ g6 ≠ Bx) := ⟨(hb.block _ (Array.getElem?_eq_some_iff.1 Gg6_4.out.1).1).trans Gg6_4.out.1, Gg6_4.out.2⟩
          refine hK.out _ _ ⟨cell_in (j := 2) HF5_.out.1 rfl, (HF5_.out.2.2.2.1.cell (World.block_lt_of_cell? w _ X0.out)).trans X0.out, (HF5_.out.2.2.2.1.cell (World.block_lt_of_cell? w _ X1.out)).trans X1.out, (HF5_.out.2.2.2.1.cell (World.block_lt_of_cell? w _ X2.out)).trans X2.out, (HF5_.out.2.2.2.1.cell (World.block_lt_of_cell? w _ X3.out)).trans X3.out, (HF5_.out.2.2.2.1.cell (World.block_lt_of_cell? w _ X4.out)).trans X4.out, cell_in (j := 0) HF5_.out.2.2.1 rfl, cell_in (j := 1) HF5_.out.2.2.1 rfl⟩ (fun hHeld => ?_)
          clear hK K
          refine norm_ (a' := ?_) ?_ ?_
          rotate_left
          · show Act.put _ (some 25) _ = _
            simp only [Act.put, List.setIfInBounds_toArray, List.set_cons_zero, List.set_cons_succ]
            rfl
          exact norm_ (by simp only [putAll, Act.put, List.setIfInBounds_toArray, List.set_cons_zero, List.set_cons_succ]) (hCont (g5, g6) _ ⟨HF5_.out, Gg5_5.out, Gg6_5.out, NB.out⟩)
      · refine box_step ?hg (N := 6) ?hd (cs := #[.string (⟨#[]⟩ : ByteArray), .int .i64 0, .int .i64 0, .int .u32 0, .slice none 0 0]) (t := 45) ?hr ?_; (case hd => rfl); (case hg => rfl); (case hr => first | (go_simp; done) | (go_simp; rfl))
        intro g6 hg V3 hbox hb
        have Gg6_3 : Aside0 (V3.heap[g6]? = some (.cells #[.string (⟨#[]⟩ : ByteArray), .int .i64 0, .int .i64 0, .int .u32 0, .slice none 0 0] 45 (0, 0)) ∧ w.heap.size + 1 < g6 ∧ g6 ≠ Bx) := ⟨hbox, by rw [hg]; exact (Array.getElem?_eq_some_iff.1 HF2.out.2.1).1, by rw [hg]; exact Nat.ne_of_gt (Array.getElem?_eq_some_iff.1 HF2.out.2.2.1).1⟩
        have HF3_ := Aside0.mk (HF2.out.below hb)
        refine hK.out _ _ ⟨cell_in (j := 2) HF3_.out.1 rfl, (HF3_.out.2.2.2.1.cell (World.block_lt_of_cell? w _ X0.out)).trans X0.out, (HF3_.out.2.2.2.1.cell (World.block_lt_of_cell? w _ X1.out)).trans X1.out, (HF3_.out.2.2.2.1.cell (World.block_lt_of_cell? w _ X2.out)).trans X2.out, (HF3_.out.2.2.2.1.cell (World.block_lt_of_cell? w _ X3.out)).trans X3.out, (HF3_.out.2.2.2.1.cell (World.block_lt_of_cell? w _ X4.out)).trans X4.out, cell_in (j := 0) HF3_.out.2.2.1 rfl, cell_in (j := 1) HF3_.out.2.2.1 rfl⟩ (fun hHeld => ?_)
        clear hK K
        refine norm_ (a' := ?_) ?_ ?_
        rotate_left
        · show Act.put _ (some 6) _ = _
          simp only [Act.put, List.setIfInBounds_toArray, List.set_cons_zero, List.set_cons_succ]
          rfl
        refine two_ (i := 6) (j := 7) (Ni := some 25) (Nj := some 5) #[true, true, true, true, true, true, true, false, true, false, false] #[true, true, true, true, true, true, false, true, true, false, false] rfl rfl rfl rfl (by kernel_rfl) (by decide) (by decide) (fun K hK => ?_) (fun K hK => ?_)
        · refine goes_ Try.func61 (by kernel_rfl) rfl #[.agg #[.string y.f0, .int .i64 y.f1]] (by rfl) rfl rfl (by (try simp only [List.map_toArray, List.map_cons, List.map_nil]); rfl) ?_
          refine (word_mk _ _ _).mono ?_
          rintro e V4 ⟨rfl, hb⟩
          refine ⟨_, rfl, ?_⟩
          have HF4_ := Aside0.mk (HF3_.out.below hb)
          have Gg6_4 : Aside0 (V4.heap[g6]? = some (.cells #[.string (⟨#[]⟩ : ByteArray), .int .i64 0, .int .i64 0, .int .u32 0, .slice none 0 0] 45 (0, 0)) ∧ w.heap.size + 1 < g6 ∧ g6 ≠ Bx) := ⟨(hb.block _ (Array.getElem?_eq_some_iff.1 Gg6_3.out.1).1).trans Gg6_3.out.1, Gg6_3.out.2⟩
          refine hK.out _ _ ⟨cell_in (j := 2) HF4_.out.1 rfl, (HF4_.out.2.2.2.1.cell (World.block_lt_of_cell? w _ X0.out)).trans X0.out, (HF4_.out.2.2.2.1.cell (World.block_lt_of_cell? w _ X1.out)).trans X1.out, (HF4_.out.2.2.2.1.cell (World.block_lt_of_cell? w _ X2.out)).trans X2.out, (HF4_.out.2.2.2.1.cell (World.block_lt_of_cell? w _ X3.out)).trans X3.out, (HF4_.out.2.2.2.1.cell (World.block_lt_of_cell? w _ X4.out)).trans X4.out, cell_in (j := 0) HF4_.out.2.2.1 rfl, cell_in (j := 1) HF4_.out.2.2.1 rfl⟩ (fun hHeld => ?_)
          clear hK K
          refine norm_ (a' := ?_) ?_ ?_
          rotate_left
          · show Act.put _ (some 25) _ = _
            simp only [Act.put, List.setIfInBounds_toArray, List.set_cons_zero, List.set_cons_succ]
            rfl
          refine one_ (i := 7) (N := some 5) #[true, true, true, true, true, true, true, true, true, false, false] rfl rfl (by kernel_rfl) (by decide) (fun K hK => ?_)
          refine box_step ?hg (N := 5) ?hd (cs := #[.string (⟨#[]⟩ : ByteArray), .int .i64 0, .int .i64 0, .int .u32 0, .slice none 0 0]) (t := 45) ?hr ?_; (case hd => rfl); (case hg => rfl); (case hr => first | (go_simp; done) | (go_simp; rfl))
          intro g5 hg V5 hbox hb
          have Gg5_5 : Aside0 (V5.heap[g5]? = some (.cells #[.string (⟨#[]⟩ : ByteArray), .int .i64 0, .int .i64 0, .int .u32 0, .slice none 0 0] 45 (0, 0)) ∧ w.heap.size + 1 < g5 ∧ g5 ≠ Bx) := ⟨hbox, by rw [hg]; exact (Array.getElem?_eq_some_iff.1 HF4_.out.2.1).1, by rw [hg]; exact Nat.ne_of_gt (Array.getElem?_eq_some_iff.1 HF4_.out.2.2.1).1⟩
          have NB : Aside0 (g5 ≠ g6) := ⟨by rw [hg]; exact Nat.ne_of_gt (Array.getElem?_eq_some_iff.1 Gg6_4.out.1).1⟩
          have HF5_ := Aside0.mk (HF4_.out.below hb)
          have Gg6_5 : Aside0 (V5.heap[g6]? = some (.cells #[.string (⟨#[]⟩ : ByteArray), .int .i64 0, .int .i64 0, .int .u32 0, .slice none 0 0] 45 (0, 0)) ∧ w.heap.size + 1 < g6 ∧ g6 ≠ Bx) := ⟨(hb.block _ (Array.getElem?_eq_some_iff.1 Gg6_4.out.1).1).trans Gg6_4.out.1, Gg6_4.out.2⟩
          refine hK.out _ _ ⟨cell_in (j := 2) HF5_.out.1 rfl, (HF5_.out.2.2.2.1.cell (World.block_lt_of_cell? w _ X0.out)).trans X0.out, (HF5_.out.2.2.2.1.cell (World.block_lt_of_cell? w _ X1.out)).trans X1.out, (HF5_.out.2.2.2.1.cell (World.block_lt_of_cell? w _ X2.out)).trans X2.out, (HF5_.out.2.2.2.1.cell (World.block_lt_of_cell? w _ X3.out)).trans X3.out, (HF5_.out.2.2.2.1.cell (World.block_lt_of_cell? w _ X4.out)).trans X4.out, cell_in (j := 0) HF5_.out.2.2.1 rfl, cell_in (j := 1) HF5_.out.2.2.1 rfl⟩ (fun hHeld => ?_)
          clear hK K
          refine norm_ (a' := ?_) ?_ ?_
          rotate_left
          · show Act.put _ (some 5) _ = _
            simp only [Act.put, List.setIfInBounds_toArray, List.set_cons_zero, List.set_cons_succ]
            rfl
          exact norm_ (by simp only [putAll, Act.put, List.setIfInBounds_toArray, List.set_cons_zero, List.set_cons_succ]) (hCont (g5, g6) _ ⟨HF5_.out, Gg5_5.out, Gg6_5.out, NB.out⟩)
        · refine box_step ?hg (N := 5) ?hd (cs := #[.string (⟨#[]⟩ : ByteArray), .int .i64 0, .int .i64 0, .int .u32 0, .slice none 0 0]) (t := 45) ?hr ?_; (case hd => rfl); (case hg => rfl); (case hr => first | (go_simp; done) | (go_simp; rfl))
          intro g5 hg V4 hbox hb
          have Gg5_4 : Aside0 (V4.heap[g5]? = some (.cells #[.string (⟨#[]⟩ : ByteArray), .int .i64 0, .int .i64 0, .int .u32 0, .slice none 0 0] 45 (0, 0)) ∧ w.heap.size + 1 < g5 ∧ g5 ≠ Bx) := ⟨hbox, by rw [hg]; exact (Array.getElem?_eq_some_iff.1 HF3_.out.2.1).1, by rw [hg]; exact Nat.ne_of_gt (Array.getElem?_eq_some_iff.1 HF3_.out.2.2.1).1⟩
          have NB : Aside0 (g5 ≠ g6) := ⟨by rw [hg]; exact Nat.ne_of_gt (Array.getElem?_eq_some_iff.1 Gg6_3.out.1).1⟩
          have HF4_ := Aside0.mk (HF3_.out.below hb)
          have Gg6_4 : Aside0 (V4.heap[g6]? = some (.cells #[.string (⟨#[]⟩ : ByteArray), .int .i64 0, .int .i64 0, .int .u32 0, .slice none 0 0] 45 (0, 0)) ∧ w.heap.size + 1 < g6 ∧ g6 ≠ Bx) := ⟨(hb.block _ (Array.getElem?_eq_some_iff.1 Gg6_3.out.1).1).trans Gg6_3.out.1, Gg6_3.out.2⟩
          refine hK.out _ _ ⟨cell_in (j := 2) HF4_.out.1 rfl, (HF4_.out.2.2.2.1.cell (World.block_lt_of_cell? w _ X0.out)).trans X0.out, (HF4_.out.2.2.2.1.cell (World.block_lt_of_cell? w _ X1.out)).trans X1.out, (HF4_.out.2.2.2.1.cell (World.block_lt_of_cell? w _ X2.out)).trans X2.out, (HF4_.out.2.2.2.1.cell (World.block_lt_of_cell? w _ X3.out)).trans X3.out, (HF4_.out.2.2.2.1.cell (World.block_lt_of_cell? w _ X4.out)).trans X4.out, cell_in (j := 0) HF4_.out.2.2.1 rfl, cell_in (j := 1) HF4_.out.2.2.1 rfl⟩ (fun hHeld => ?_)
          clear hK K
          refine norm_ (a' := ?_) ?_ ?_
          rotate_left
          · show Act.put _ (some 5) _ = _
            simp only [Act.put, List.setIfInBounds_toArray, List.set_cons_zero, List.set_cons_succ]
            rfl
          refine one_ (i := 6) (N := some 25) #[true, true, true, true, true, true, true, true, true, false, false] rfl rfl (by kernel_rfl) (by decide) (fun K hK => ?_)
          refine goes_ Try.func61 (by kernel_rfl) rfl #[.agg #[.string y.f0, .int .i64 y.f1]] (by rfl) rfl rfl (by (try simp only [List.map_toArray, List.map_cons, List.map_nil]); rfl) ?_
          refine (word_mk _ _ _).mono ?_
          rintro e V5 ⟨rfl, hb⟩
          refine ⟨_, rfl, ?_⟩
          have HF5_ := Aside0.mk (HF4_.out.below hb)
          have Gg6_5 : Aside0 (V5.heap[g6]? = some (.cells #[.string (⟨#[]⟩ : ByteArray), .int .i64 0, .int .i64 0, .int .u32 0, .slice none 0 0] 45 (0, 0)) ∧ w.heap.size + 1 < g6 ∧ g6 ≠ Bx) := ⟨(hb.block _ (Array.getElem?_eq_some_iff.1 Gg6_4.out.1).1).trans Gg6_4.out.1, Gg6_4.out.2⟩
          have Gg5_5 : Aside0 (V5.heap[g5]? = some (.cells #[.string (⟨#[]⟩ : ByteArray), .int .i64 0, .int .i64 0, .int .u32 0, .slice none 0 0] 45 (0, 0)) ∧ w.heap.size + 1 < g5 ∧ g5 ≠ Bx) := ⟨(hb.block _ (Array.getElem?_eq_some_iff.1 Gg5_4.out.1).1).trans Gg5_4.out.1, Gg5_4.out.2⟩
          refine hK.out _ _ ⟨cell_in (j := 2) HF5_.out.1 rfl, (HF5_.out.2.2.2.1.cell (World.block_lt_of_cell? w _ X0.out)).trans X0.out, (HF5_.out.2.2.2.1.cell (World.block_lt_of_cell? w _ X1.out)).trans X1.out, (HF5_.out.2.2.2.1.cell (World.block_lt_of_cell? w _ X2.out)).trans X2.out, (HF5_.out.2.2.2.1.cell (World.block_lt_of_cell? w _ X3.out)).trans X3.out, (HF5_.out.2.2.2.1.cell (World.block_lt_of_cell? w _ X4.out)).trans X4.out, cell_in (j := 0) HF5_.out.2.2.1 rfl, cell_in (j := 1) HF5_.out.2.2.1 rfl⟩ (fun hHeld => ?_)
          clear hK K
          refine norm_ (a' := ?_) ?_ ?_
          rotate_left
          · show Act.put _ (some 25) _ = _
            simp only [Act.put, List.setIfInBounds_toArray, List.set_cons_zero, List.set_cons_succ]
            rfl
          exact norm_ (by simp only [putAll, Act.put, List.setIfInBounds_toArray, List.set_cons_zero, List.set_cons_succ]) (hCont (g5, g6) _ ⟨HF5_.out, Gg5_5.out, Gg6_5.out, NB.out⟩)
    case cont =>
    rintro ⟨g5, g6⟩ U ⟨hFF, hF5, hF6, hNB⟩
    dsimp only at hFF hF5 hF6 hNB ⊢
    clear hHeld HF2
    have h5 := hF5.1
    have h6 := hF6.1
    have hs50 := cell_in (j := 0) h5 rfl
    have hf50 := frozen_in (j := 0) h5
    have hs51 := cell_in (j := 1) h5 rfl
    have hf51 := frozen_in (j := 1) h5
    have hs52 := cell_in (j := 2) h5 rfl
    have hf52 := frozen_in (j := 2) h5
    have hs53 := cell_in (j := 3) h5 rfl
    have hf53 := frozen_in (j := 3) h5
    have hs54 := cell_in (j := 4) h5 rfl
    have hf54 := frozen_in (j := 4) h5
    refine norm_ (a' := ?_) ?_ ?_
    rotate_left
    · simp only [putAll, Act.put, List.setIfInBounds_toArray, List.set_cons_zero, List.set_cons_succ]
      rfl
    refine last_ (i := 9) (N := none) #[true, true, true, true, true, true, true, true, true, true, false] rfl rfl (by kernel_rfl) (by decide) (fun K hK => ?_)
    refine skip_ (w1 := ?_) (by rfl) rfl ?_ ?_
    rotate_left
    · go_simp
      rfl
    refine hK.out _ _ ?_
    clear hK K
    obtain ⟨U1, hU1⟩ : ∃ U1, (((((U.setCell ⟨g5, 0, none⟩ (.string z.f0)).setCell ⟨g5, 1, none⟩ (.int .i64 z.f1)).setCell ⟨g5, 2, none⟩ (.int .i64 z.f2)).setCell ⟨g5, 3, none⟩ (.int .u32 z.f3)).setCell ⟨g5, 4, none⟩ (.slice A4_ z.f4.length c4_)) = U1 := ⟨_, rfl⟩
    have h5' : U1.heap[g5]? = some (.cells #[.string z.f0, .int .i64 z.f1, .int .i64 z.f2, .int .u32 z.f3, .slice A4_ z.f4.length c4_] 45 (0, 0)) := by rw [← hU1]; exact (blk_put (blk_put (blk_put (blk_put (blk_put h5 0 _ rfl) 1 _ rfl) 2 _ rfl) 3 _ rfl) 4 _ rfl)
    have hfar : ∀ k, k ≠ g5 → U1.heap[k]? = U.heap[k]? := fun k hk => by rw [← hU1]; exact ((Below.heap_setCell _ _ _ _ hk).trans ((Below.heap_setCell _ _ _ _ hk).trans ((Below.heap_setCell _ _ _ _ hk).trans ((Below.heap_setCell _ _ _ _ hk).trans ((Below.heap_setCell _ _ _ _ hk).trans rfl)))))
    have hsz1 : U1.heap.size = U.heap.size := by rw [← hU1]; simp
    have hbl1 : Below w.heap.size w U1 := by rw [← hU1]; exact (((((hFF.2.2.2.1.setCell (p := ⟨g5, 0, none⟩) (by show w.heap.size ≤ g5; have := hF5.2.1; omega) _).setCell (p := ⟨g5, 1, none⟩) (by show w.heap.size ≤ g5; have := hF5.2.1; omega) _).setCell (p := ⟨g5, 2, none⟩) (by show w.heap.size ≤ g5; have := hF5.2.1; omega) _).setCell (p := ⟨g5, 3, none⟩) (by show w.heap.size ≤ g5; have := hF5.2.1; omega) _).setCell (p := ⟨g5, 4, none⟩) (by show w.heap.size ≤ g5; have := hF5.2.1; omega) _)
    have h6' : U1.heap[g6]? = some (.cells #[.string (⟨#[]⟩ : ByteArray), .int .i64 0, .int .i64 0, .int .u32 0, .slice none 0 0] 45 (0, 0)) := (hfar _ (Ne.symm hNB)).trans h6
    rw [hU1]
    clear hU1 hs50 hf50 hs51 hf51 hs52 hf52 hs53 hf53 hs54 hf54
    have hs60 := cell_in (j := 0) h6' rfl
    have hf60 := frozen_in (j := 0) h6'
    have hs61 := cell_in (j := 1) h6' rfl
    have hf61 := frozen_in (j := 1) h6'
    have hs62 := cell_in (j := 2) h6' rfl
    have hf62 := frozen_in (j := 2) h6'
    have hs63 := cell_in (j := 3) h6' rfl
    have hf63 := frozen_in (j := 3) h6'
    have hs64 := cell_in (j := 4) h6' rfl
    have hf64 := frozen_in (j := 4) h6'
    refine last_ (i := 10) (N := none) #[true, true, true, true, true, true, true, true, true, true, true] rfl rfl (by kernel_rfl) (by decide) (fun K hK => ?_)
    refine skip_ (w1 := ?_) (by rfl) rfl ?_ ?_
    rotate_left
    · go_simp
      rfl
    refine hK.out _ _ ?_
    clear hK K
    obtain ⟨U2, hU2⟩ : ∃ U2, (((((U1.setCell ⟨g6, 0, none⟩ (.string y.f0)).setCell ⟨g6, 1, none⟩ (.int .i64 (-1))).setCell ⟨g6, 2, none⟩ (.int .i64 1)).setCell ⟨g6, 3, none⟩ (.int .u32 (y.f1 % 4294967296))).setCell ⟨g6, 4, none⟩ (.slice none 0 0)) = U2 := ⟨_, rfl⟩
    have h6'' : U2.heap[g6]? = some (.cells #[.string y.f0, .int .i64 (-1), .int .i64 1, .int .u32 (y.f1 % 4294967296), .slice none 0 0] 45 (0, 0)) := by rw [← hU2]; exact (blk_put (blk_put (blk_put (blk_put (blk_put h6' 0 _ rfl) 1 _ rfl) 2 _ rfl) 3 _ rfl) 4 _ rfl)
    have hfar2 : ∀ k, k ≠ g6 → U2.heap[k]? = U1.heap[k]? := fun k hk => by rw [← hU2]; exact ((Below.heap_setCell _ _ _ _ hk).trans ((Below.heap_setCell _ _ _ _ hk).trans ((Below.heap_setCell _ _ _ _ hk).trans ((Below.heap_setCell _ _ _ _ hk).trans ((Below.heap_setCell _ _ _ _ hk).trans rfl)))))
    have hsz2 : U2.heap.size = U1.heap.size := by rw [← hU2]; simp
    have hbl2 : Below w.heap.size w U2 := by rw [← hU2]; exact (((((hbl1.setCell (p := ⟨g6, 0, none⟩) (by show w.heap.size ≤ g6; have := hF6.2.1; omega) _).setCell (p := ⟨g6, 1, none⟩) (by show w.heap.size ≤ g6; have := hF6.2.1; omega) _).setCell (p := ⟨g6, 2, none⟩) (by show w.heap.size ≤ g6; have := hF6.2.1; omega) _).setCell (p := ⟨g6, 3, none⟩) (by show w.heap.size ≤ g6; have := hF6.2.1; omega) _).setCell (p := ⟨g6, 4, none⟩) (by show w.heap.size ≤ g6; have := hF6.2.1; omega) _)
    have h5'' : U2.heap[g5]? = some (.cells #[.string z.f0, .int .i64 z.f1, .int .i64 z.f2, .int .u32 z.f3, .slice A4_ z.f4.length c4_] 45 (0, 0)) := (hfar2 _ hNB).trans h5'
    rw [hU2]
    clear hU2 hs60 hf60 hs61 hf61 hs62 hf62 hs63 hf63 hs64 hf64
    have tr2 : Tr w.heap.size W U2 := (hFF.2.2.2.2.trans (tr_but (some g5) (Nat.le_of_eq hsz1.symm) (fun k e => by cases e; exact ⟨by have := hF5.2.1; omega, _, 45, by decide, h5⟩) (fun k hk hne => hfar k (fun e => hne (by rw [e]))))).trans (tr_but (some g6) (Nat.le_of_eq hsz2.symm) (fun k e => by cases e; exact ⟨by have := hF6.2.1; omega, _, 45, by decide, h6'⟩) (fun k hk hne => hfar2 k (fun e => hne (by rw [e]))))
    have both : ∀ k, k ≠ g5 → k ≠ g6 → U2.heap[k]? = U.heap[k]? := fun k h1 h2 => (hfar2 k h2).trans (hfar k h1)
    have e1 : U2.heap[w.heap.size]? = some (.cells #[.slice A0_0 l0_0.length c0_0, .slice A0_1 l0_1.length c0_1, .slice (some ad) l0_2.length c0_2, .slice A0_3 l0_3.length c0_3, .int .u32 a0_4, .slice A0_5 l0_5.length c0_5, .int .i64 a0_6, .slice A0_7 l0_7.length c0_7, .int .i64 a0_8, .string a0_9] 35 (0, 0)) := (both _ (by have := hF5.2.1; omega) (by have := hF6.2.1; omega)).trans hFF.1
    have e2 : U2.heap[w.heap.size + 1]? = some (.cells #[.bool false] 4 (0, 0)) := (both _ (by have := hF5.2.1; omega) (by have := hF6.2.1; omega)).trans hFF.2.1
    clear hfar hfar2 both hsz1 hsz2 hbl1 h5' h6' h5 h6 hF5 hF6 hFF hNB
    have q50 := cell_in (j := 0) h5'' rfl
    have q60 := cell_in (j := 0) h6'' rfl
    have q51 := cell_in (j := 1) h5'' rfl
    have q61 := cell_in (j := 1) h6'' rfl
    have q52 := cell_in (j := 2) h5'' rfl
    have q62 := cell_in (j := 2) h6'' rfl
    have q53 := cell_in (j := 3) h5'' rfl
    have q63 := cell_in (j := 3) h6'' rfl
    have q54 := cell_in (j := 4) h5'' rfl
    have q64 := cell_in (j := 4) h6'' rfl
    have qs := cell_in (j := 0) e2 rfl
    have qf := frozen_in (j := 0) e2
    have E1 := Aside0.mk e1
    have E2 := Aside0.mk e2
    have TR := Aside0.mk tr2
    have HBL := Aside0.mk hbl2
    clear e1 e2 tr2 hbl2 h5'' h6''
    refine done_ (by kernel_rfl) ?_
    gi_wp2
    all_goals first
      | refine ⟨(TR.out.1.trans (KeepsOthers.setCell _ _ _)).from _, rfl, ⟨x, by rw [HZ.out, HY.out]; first | exact okW_f0 (by assumption) | exact okW_f1 (by assumption) | exact okW_f2 (by assumption) | exact okW_f3 (by assumption) | exact okW_f4 (by assumption)⟩, Boxed.set _ E2.out, HBL.out.setCell (p := ⟨w.heap.size + 1, 0, none⟩) (by show w.heap.size ≤ w.heap.size + 1; omega) _⟩
      | (refine ⟨TR.out.1.from _, TR.out.2, ?_, E1.out, E2.out, HBL.out⟩
         intro j hj
         rcases List.mem_append.1 hj with hj | hj
         · exact HPRE.out j hj
         · obtain rfl := List.mem_singleton.1 hj
           rw [HZ.out, HY.out]
           exact okW_true (by assumption) (by assumption) (by assumption) (by assumption) (by assumption))
  case done =>
    rintro D ys W hD rfl ⟨i1, i2, i3, i4⟩ hK
    have hok : okAll l0_2 = true := by
      unfold okAll
      rw [List.all_eq_true]
      exact i1
    have hR := H.out
    rw [if_pos hok] at hR
    have e2 := cell_in (j := 2) i2 rfl
    have e5 := cell_in (j := 5) i2 rfl
    have f3 := frozen_in (j := 0) i3
    have g3 := cell_in (j := 0) i3 rfl
    have I2 := Aside0.mk i2
    have I3 := Aside0.mk i3
    have I4 := Aside0.mk i4
    have HK := Aside0.mk hK
    have HD := Aside0.mk hD
    have HRS := Aside0.mk hR
    have hlz : (111 : Int) ≤ (l0_2.length : Int) := by have := HSM.out; omega
    have hcz : (l0_2.length : Int) ≤ (c0_2 : Int) := by have := HC2.out; omega
    clear i1 i2 i3 i4 hK hD hR hok H
    have hdl : (l0_2.drop 111).length = l0_2.length - 111 := List.length_drop
    obtain ⟨hall, hres⟩ : ((l0_2.drop 111).all (fun x => (rightO (l0_2.length : Int) l0_5 x).isSome)) = true ∧ r = (!((l0_2.drop 111).any fun x => !((rightO (l0_2.length : Int) l0_5 x) == some true))) := by
      have h1 := HRS.out
      unfold restO at h1
      split at h1
      · rename_i h2
        exact ⟨h2, (Option.some.inj h1).symm⟩
      · cases h1
    have hpm : PredM Try.prog k45 73 #[.pointer (some ⟨w.heap.size, 0, none⟩)] (fun x => !((rightO (l0_2.length : Int) l0_5 x) == some true)) (l0_2.drop 111) W := by
      intro V x c hb hx hKx
      obtain ⟨A4, c4, rfl, l4, g4⟩ := k45_open hKx
      have h1 := List.all_eq_true.1 hall x hx
      obtain ⟨b, hb1⟩ := Option.isSome_iff_exists.1 h1
      obtain ⟨k, hk⟩ := anyK_some hb1
      have h2 := right_not w.heap.size #[] A0_2 A0_5 c0_2 c0_5 l0_2.length l0_5 x b V A4 c4 ((hb.cell (World.block_lt_of_cell? W _ e2)).trans e2) ((hb.cell (World.block_lt_of_cell? W _ e5)).trans e5) g4 l4 (Kd.C_below (Kd.C_below HR5.out I4.out) hb) HC5.out k hk
      dsimp only
      rw [hb1]
      have hbb : (!(some b == some true)) = !b := by cases b <;> rfl
      rw [hbb]
      exact h2
    have hany : ∀ (A' : Option Addr) (c' : Nat), Kd.C k45 W A' (l0_2.drop 111).length (l0_2.drop 111) → (l0_2.drop 111).length ≤ c' → Calls Try.prog 72 #[.slice A' (l0_2.length - 111) c', .func (.func 73) #[] #[.pointer (some ⟨w.heap.size, 0, none⟩)]] W fun e w' => e = .returned (.bool (!r)) ∧ Below W.heap.size W w' := by
      intro A' c' h1 h2
      have h3 := hasfm_T45 _ 73 _ (enters_of Try.func73 (by kernel_rfl) rfl) A' c' (l0_2.drop 111) W h1 h2 hpm
      rw [hdl] at h3
      rw [hres, Bool.not_not]
      exact h3
    have hCW := Kd.C_drop (Kd.C_below HR2.out I4.out) (m := 111) (by have := HSM.out; omega) HC2.out
    clear hpm hall hres HRS
    have HANY := Aside0.mk hany
    clear hany
    by_cases hcc : c0_2 = 111
    · rw [if_pos hcc] at hCW
      have hc1 := HANY.out A0_2 0 hCW (by rw [hdl]; have := HC2.out; omega)
      clear hCW
      gi_wp2_with (refine ⟨trivial, ?_⟩; gi_at_call 72; refine (callsIn_wide.2 hc1).mono ?_; rintro e W4 ⟨rfl, hb4⟩; have g4 := (hb4.cell (World.block_lt_of_cell? W _ g3)).trans g3; have f4 := (hb4.frozen (World.block_lt_of_cell? W _ g3)).trans f3)
      have i34 := (hb4.block _ (Array.getElem?_eq_some_iff.1 I3.out).1).trans I3.out
      have k4 := (hb4.block _ (Array.getElem?_eq_some_iff.1 HK.out).1).trans HK.out
      have b4 : Below w.heap.size w W4 := I4.out.trans (hb4.mono I4.out.size)
      obtain ⟨W5, hW5⟩ : ∃ W5, W4.setCell ⟨w.heap.size + 1, 0, none⟩ (.bool r) = W5 := ⟨_, rfl⟩
      have hD1 : w.heap.size + 1 < D := by have := HD.out; simp at this; omega
      have k5 : W5.heap[D]? = some (.deferred (some [])) := by rw [← hW5]; exact (Below.heap_setCell _ _ _ _ (by show D ≠ w.heap.size + 1; omega)).trans k4
      have q5 : W5.heap[w.heap.size + 1]? = some (.cells #[.bool r] 4 (0, 0)) := by rw [← hW5]; exact blk_put i34 0 _ rfl
      have b5 : Below w.heap.size w W5 := by rw [← hW5]; exact b4.setCell (by show w.heap.size ≤ w.heap.size + 1; omega) _
      rw [hW5]
      refine ⟨by simp, .inl ⟨_, _, rfl, run_takeDeferred k5, ?_⟩⟩
      have c5 := cell_kept (cell_in (j := 0) q5 rfl) (grownBy_putObj' _ D (.deferred none)) (fun r e => by cases e; exact ⟨_, k5, rfl⟩)
      refine ⟨.bool r, ?_, rfl, b5.trans (belowK_b (w := w) (Nat.le_refl _) _ D _ _ (by omega) k5 rfl rfl)⟩
      simp [results, Try.f40, go_sem, c5]
    · rw [if_neg hcc] at hCW
      have hc1 := HANY.out (Option.map (fun x : Addr => { block := x.block, off := x.off + 555 }) A0_2) (c0_2 - 111) hCW (by rw [hdl]; have := HC2.out; omega)
      clear hCW
      gi_wp2_with (refine ⟨trivial, ?_⟩; gi_at_call 72; refine (callsIn_wide.2 hc1).mono ?_; rintro e W4 ⟨rfl, hb4⟩; have g4 := (hb4.cell (World.block_lt_of_cell? W _ g3)).trans g3; have f4 := (hb4.frozen (World.block_lt_of_cell? W _ g3)).trans f3)
      have i34 := (hb4.block _ (Array.getElem?_eq_some_iff.1 I3.out).1).trans I3.out
      have k4 := (hb4.block _ (Array.getElem?_eq_some_iff.1 HK.out).1).trans HK.out
      have b4 : Below w.heap.size w W4 := I4.out.trans (hb4.mono I4.out.size)
      obtain ⟨W5, hW5⟩ : ∃ W5, W4.setCell ⟨w.heap.size + 1, 0, none⟩ (.bool r) = W5 := ⟨_, rfl⟩
      have hD1 : w.heap.size + 1 < D := by have := HD.out; simp at this; omega
      have k5 : W5.heap[D]? = some (.deferred (some [])) := by rw [← hW5]; exact (Below.heap_setCell _ _ _ _ (by show D ≠ w.heap.size + 1; omega)).trans k4
      have q5 : W5.heap[w.heap.size + 1]? = some (.cells #[.bool r] 4 (0, 0)) := by rw [← hW5]; exact blk_put i34 0 _ rfl
      have b5 : Below w.heap.size w W5 := by rw [← hW5]; exact b4.setCell (by show w.heap.size ≤ w.heap.size + 1; omega) _
      rw [hW5]
      refine ⟨by simp, .inl ⟨_, _, rfl, run_takeDeferred k5, ?_⟩⟩
      have c5 := cell_kept (cell_in (j := 0) q5 rfl) (grownBy_putObj' _ D (.deferred none)) (fun r e => by cases e; exact ⟨_, k5, rfl⟩)
      refine ⟨.bool r, ?_, rfl, b5.trans (belowK_b (w := w) (Nat.le_refl _) _ D _ _ (by omega) k5 rfl rfl)⟩
      simp [results, Try.f40, go_sem, c5]
  case stop =>
    rintro D c pre W hD hpre ⟨rfl, ⟨j, hj⟩, h3, h4⟩ hK
    have hok : ¬ okAll l0_2 = true := by
      intro h
      unfold okAll at h
      have := List.all_eq_true.1 h j (List.mem_finRange j)
      rw [hj] at this
      cases this
    have hR := H.out
    rw [if_neg hok] at hR
    have HL := Aside0.mk (Option.some.inj hR)
    have H3 := Aside0.mk h3
    have H4 := Aside0.mk h4
    have HK := Aside0.mk hK
    have HD := Aside0.mk hD
    clear hR hok h3 h4 hK hj hpre hD H
    gi_wp2
    refine ⟨by simp, .inl ⟨_, _, rfl, run_takeDeferred HK.out, ?_⟩⟩
    have c5 := cell_kept (cell_in (j := 0) H3.out rfl) (grownBy_putObj' _ D (.deferred none)) (fun r e => by cases e; exact ⟨_, HK.out, rfl⟩)
    refine ⟨.bool false, ?_, by rw [← HL.out], (H4.out).trans (belowK_b (w := w) (Nat.le_refl _) _ D _ _ (by have := HD.out; simp at this; omega) HK.out rfl rfl)⟩
    simp [results, Try.f40, go_sem, c5]
end Go.Proofs.Ytpalbpakeokimaa.PK
