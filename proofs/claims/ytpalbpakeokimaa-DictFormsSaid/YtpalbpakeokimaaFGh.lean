/- tinder: a part of the proof, joined and pruned by wip/tools/prune.py out of: Gh -/
import Derived.Test.YtpalbpakeokimaaFGh1
import Derived.Test.YtpalbpakeokimaaFGh0
namespace Go.Proofs.Ytpalbpakeokimaa.PK
set_option linter.unusedVariables false
set_option linter.unusedSimpArgs false
open Go.RowKit Go.Proofs.YtpalbpakeokimaaW.PrintWords Go.Proofs.YtpalbpakeokimaaW.PrintLast Go.Proofs.YtpalbpakeokimaaW.PrintMore
def opsFits (x : S45) : Bool := decide (x.f4.length * 16 ≤ 140737488355328)
def cellsFits (x : S80) : Bool := decide (x.f3.length * 4 ≤ 140737488355328)
def machFits (l0 : List Int) (l1 : List Int) (l2 : List S45) (l3 : List Int) (l5 : List S92) (l7 : List S80) : Bool :=
  decide (l0.length * 4 ≤ 140737488355328) && decide (l1.length * 1 ≤ 140737488355328) && decide (l3.length * 8 ≤ 140737488355328) && decide (l2.length * 64 ≤ 140737488355328) && l2.all opsFits && decide (l7.length * 56 ≤ 140737488355328) && l7.all cellsFits && treeFits l5
theorem grown_trans {W W1 W2 : World} {row : Option Nat} (h : W.grownBy W1 row) (k : W1.grownBy W2 row) : W.grownBy W2 row :=
  ⟨k.os.trans h.os, k.tape.trans h.tape, k.output.trans h.output, Nat.le_trans h.size k.size, fun i hi hr => (k.block i (Nat.lt_of_lt_of_le hi h.size) hr).trans (h.block i hi hr)⟩
theorem grown_set {W : World} {g j : Nat} (u : Value) : W.grownBy (W.setCell ⟨g, j, none⟩ u) (some g) :=
  ⟨rfl, rfl, rfl, by simp, fun i hi hr => Below.heap_setCell _ _ _ _ (by intro e; exact hr (by rw [e]))⟩
def dict_Copy.f (l0_0 : List Int) (l0_1 : List Int) (l0_2 : List (S45)) (l0_3 : List Int) (a0_4 : Int) (l0_5 : List (S92)) (a0_6 : Int) (l0_7 : List (S80)) (a0_8 : Int) (a0_9 : ByteArray) : Option (List Int × List Int × (List (S45)) × List Int × Int × (List (S92)) × Int × (List (S80)) × Int × ByteArray) := if machFits l0_0 l0_1 l0_2 l0_3 l0_5 l0_7 = true then some (l0_0, l0_1, l0_2, l0_3, a0_4, l0_5, a0_6, l0_7, a0_8, a0_9) else none
set_option maxHeartbeats 8000000 in
set_option maxRecDepth 100000 in
theorem dict_Copy.calls (A0_0 : Option Addr) (c0_0 : Nat) (l0_0 : List Int) (A0_1 : Option Addr) (c0_1 : Nat) (l0_1 : List Int) (A0_2 : Option Addr) (c0_2 : Nat) (l0_2 : List (S45)) (A0_3 : Option Addr) (c0_3 : Nat) (l0_3 : List Int) (a0_4 : Int) (A0_5 : Option Addr) (c0_5 : Nat) (l0_5 : List (S92)) (a0_6 : Int) (A0_7 : Option Addr) (c0_7 : Nat) (l0_7 : List (S80)) (a0_8 : Int) (a0_9 : ByteArray) (r1 : List Int) (r2 : List Int) (r3 : List (S45)) (r4 : List Int) (r5 : Int) (r6 : List (S92)) (r7 : Int) (r8 : List (S80)) (r9 : Int) (r10 : ByteArray) (w : World) (hr0_0 : Kd.C (Kd.int .u32) w A0_0 l0_0.length l0_0) (hc0_0 : l0_0.length ≤ c0_0) (hr0_1 : Kd.C (Kd.int .u8) w A0_1 l0_1.length l0_1) (hc0_1 : l0_1.length ≤ c0_1) (hr0_2 : Kd.C k45 w A0_2 l0_2.length l0_2) (hc0_2 : l0_2.length ≤ c0_2) (hr0_3 : Kd.C (Kd.int .i64) w A0_3 l0_3.length l0_3) (hc0_3 : l0_3.length ≤ c0_3) (hr0_5 : Kd.C k92 w A0_5 l0_5.length l0_5) (hc0_5 : l0_5.length ≤ c0_5) (hr0_7 : Kd.C k80 w A0_7 l0_7.length l0_7) (hc0_7 : l0_7.length ≤ c0_7) (h : dict_Copy.f l0_0 l0_1 l0_2 l0_3 a0_4 l0_5 a0_6 l0_7 a0_8 a0_9 = some (r1, r2, r3, r4, r5, r6, r7, r8, r9, r10)) :
    Calls Try.prog 23 #[.agg #[.slice A0_0 l0_0.length c0_0, .slice A0_1 l0_1.length c0_1, .slice A0_2 l0_2.length c0_2, .slice A0_3 l0_3.length c0_3, .int .u32 a0_4, .slice A0_5 l0_5.length c0_5, .int .i64 a0_6, .slice A0_7 l0_7.length c0_7, .int .i64 a0_8, .string a0_9]] w fun e w' => ∃ v0_ v1_ v2_ v3_ v5_ v7_ : Value, e = .returned (.agg #[v0_, v1_, v2_, v3_, .int .u32 r5, v5_, .int .i64 r7, v7_, .int .i64 r9, .string r10]) ∧ Kd.R (Kd.int .u32) 31 w' w.heap.size (fun _ => True) v0_ r1 ∧ Kd.R (Kd.int .u8) 5 w' w.heap.size (fun _ => True) v1_ r2 ∧ Kd.S k45 45 w' w.heap.size (fun _ => True) v2_ r3 ∧ Kd.R (Kd.int .i64) 3 w' w.heap.size (fun _ => True) v3_ r4 ∧ Kd.R k92 92 w' w.heap.size (fun k_ => some k_ ≠ (v0_ : Value).ownBlock ∧ some k_ ≠ (v1_ : Value).ownBlock) v5_ r6 ∧ Kd.S k80 80 w' w.heap.size (fun k_ => some k_ ≠ (v0_ : Value).ownBlock) v7_ r8 ∧ Below w.heap.size w w' := by
  unfold dict_Copy.f at h
  by_cases hfit : machFits l0_0 l0_1 l0_2 l0_3 l0_5 l0_7 = true
  · rw [if_pos hfit] at h
    simp only [Option.some.injEq, Prod.mk.injEq] at h
    obtain ⟨rfl, rfl, rfl, rfl, rfl, rfl, rfl, rfl, rfl, rfl⟩ := h
    unfold machFits at hfit
    simp only [Bool.and_eq_true, decide_eq_true_eq] at hfit
    obtain ⟨⟨⟨⟨⟨⟨⟨f0, f1⟩, f3⟩, f2⟩, f2a⟩, f7⟩, f7a⟩, f5⟩ := hfit
    have fit0 : Aside0 (slices_Clone_uint32_uint32.f l0_0 = some l0_0) := ⟨if_pos f0⟩
    have fit1 : Aside0 (slices_Clone_byte_byte.f l0_1 = some l0_1) := ⟨if_pos f1⟩
    have fit3 : Aside0 (slices_Clone_int_int.f l0_3 = some l0_3) := ⟨if_pos f3⟩
    have fit5 : Aside0 (tree_Copy.f l0_5 = some l0_5) := ⟨if_pos f5⟩
    have fit2 := Aside0.mk f2
    have fit2a := Aside0.mk (List.all_eq_true.1 f2a)
    have fit7 := Aside0.mk f7
    have fit7a := Aside0.mk (List.all_eq_true.1 f7a)
    have hmx2 := hr0_2.2.1
    have hmx7 := hr0_7.2.1
    replace hr0_0 := Aside0.mk hr0_0
    replace hc0_0 := Aside0.mk hc0_0
    replace hr0_1 := Aside0.mk hr0_1
    replace hc0_1 := Aside0.mk hc0_1
    replace hr0_2 := Aside0.mk hr0_2
    replace hc0_2 := Aside0.mk hc0_2
    replace hr0_3 := Aside0.mk hr0_3
    replace hc0_3 := Aside0.mk hc0_3
    replace hr0_5 := Aside0.mk hr0_5
    replace hc0_5 := Aside0.mk hc0_5
    replace hr0_7 := Aside0.mk hr0_7
    replace hc0_7 := Aside0.mk hc0_7
    clear f0 f1 f2 f2a f3 f5 f7 f7a
    have L0 := below_alloc (below_alloc (Below.refl w.heap.size w) (.cells #[.slice A0_0 l0_0.length c0_0, .slice A0_1 l0_1.length c0_1, .slice A0_2 l0_2.length c0_2, .slice A0_3 l0_3.length c0_3, .int .u32 a0_4, .slice A0_5 l0_5.length c0_5, .int .i64 a0_6, .slice A0_7 l0_7.length c0_7, .int .i64 a0_8, .string a0_9] 35)) (.cells #[.slice none 0 0, .slice none 0 0, .slice none 0 0, .slice none 0 0, .int .u32 0, .slice none 0 0, .int .i64 0, .slice none 0 0, .int .i64 0, .string ⟨#[]⟩] 35)
    have N0 := blk_new w (.cells #[.slice A0_0 l0_0.length c0_0, .slice A0_1 l0_1.length c0_1, .slice A0_2 l0_2.length c0_2, .slice A0_3 l0_3.length c0_3, .int .u32 a0_4, .slice A0_5 l0_5.length c0_5, .int .i64 a0_6, .slice A0_7 l0_7.length c0_7, .int .i64 a0_8, .string a0_9] 35)
    have N1 := blk_new (w.alloc (.cells #[.slice A0_0 l0_0.length c0_0, .slice A0_1 l0_1.length c0_1, .slice A0_2 l0_2.length c0_2, .slice A0_3 l0_3.length c0_3, .int .u32 a0_4, .slice A0_5 l0_5.length c0_5, .int .i64 a0_6, .slice A0_7 l0_7.length c0_7, .int .i64 a0_8, .string a0_9] 35)) (.cells #[.slice none 0 0, .slice none 0 0, .slice none 0 0, .slice none 0 0, .int .u32 0, .slice none 0 0, .int .i64 0, .slice none 0 0, .int .i64 0, .string ⟨#[]⟩] 35)
    have N2 := ((below_alloc (Below.refl (w.alloc (.cells #[.slice A0_0 l0_0.length c0_0, .slice A0_1 l0_1.length c0_1, .slice A0_2 l0_2.length c0_2, .slice A0_3 l0_3.length c0_3, .int .u32 a0_4, .slice A0_5 l0_5.length c0_5, .int .i64 a0_6, .slice A0_7 l0_7.length c0_7, .int .i64 a0_8, .string a0_9] 35)).heap.size (w.alloc (.cells #[.slice A0_0 l0_0.length c0_0, .slice A0_1 l0_1.length c0_1, .slice A0_2 l0_2.length c0_2, .slice A0_3 l0_3.length c0_3, .int .u32 a0_4, .slice A0_5 l0_5.length c0_5, .int .i64 a0_6, .slice A0_7 l0_7.length c0_7, .int .i64 a0_8, .string a0_9] 35))) (.cells #[.slice none 0 0, .slice none 0 0, .slice none 0 0, .slice none 0 0, .int .u32 0, .slice none 0 0, .int .i64 0, .slice none 0 0, .int .i64 0, .string ⟨#[]⟩] 35)).block _ (blk_lt N0)).trans N0
    have hz0 : (w.alloc (.cells #[.slice A0_0 l0_0.length c0_0, .slice A0_1 l0_1.length c0_1, .slice A0_2 l0_2.length c0_2, .slice A0_3 l0_3.length c0_3, .int .u32 a0_4, .slice A0_5 l0_5.length c0_5, .int .i64 a0_6, .slice A0_7 l0_7.length c0_7, .int .i64 a0_8, .string a0_9] 35)).heap.size = w.heap.size + 1 := by simp
    have hz1 : ((w.alloc (.cells #[.slice A0_0 l0_0.length c0_0, .slice A0_1 l0_1.length c0_1, .slice A0_2 l0_2.length c0_2, .slice A0_3 l0_3.length c0_3, .int .u32 a0_4, .slice A0_5 l0_5.length c0_5, .int .i64 a0_6, .slice A0_7 l0_7.length c0_7, .int .i64 a0_8, .string a0_9] 35)).alloc (.cells #[.slice none 0 0, .slice none 0 0, .slice none 0 0, .slice none 0 0, .int .u32 0, .slice none 0 0, .int .i64 0, .slice none 0 0, .int .i64 0, .string ⟨#[]⟩] 35)).heap.size = w.heap.size + 2 := by simp
    rw [hz0] at N1
    obtain ⟨W1, hW1⟩ : ∃ W1, ((w.alloc (.cells #[.slice A0_0 l0_0.length c0_0, .slice A0_1 l0_1.length c0_1, .slice A0_2 l0_2.length c0_2, .slice A0_3 l0_3.length c0_3, .int .u32 a0_4, .slice A0_5 l0_5.length c0_5, .int .i64 a0_6, .slice A0_7 l0_7.length c0_7, .int .i64 a0_8, .string a0_9] 35)).alloc (.cells #[.slice none 0 0, .slice none 0 0, .slice none 0 0, .slice none 0 0, .int .u32 0, .slice none 0 0, .int .i64 0, .slice none 0 0, .int .i64 0, .string ⟨#[]⟩] 35)).drew = W1 := ⟨_, rfl⟩
    have BX1 : Aside0 (RowAt W1 w.heap.size 35 10 1 1 [.slice A0_0 l0_0.length c0_0, .slice A0_1 l0_1.length c0_1, .slice A0_2 l0_2.length c0_2, .slice A0_3 l0_3.length c0_3, .int .u32 a0_4, .slice A0_5 l0_5.length c0_5, .int .i64 a0_6, .slice A0_7 l0_7.length c0_7, .int .i64 a0_8, .string a0_9]) := ⟨by rw [← hW1]; exact ⟨N2, Nat.le_refl _, by decide, rfl⟩⟩
    have BR1 : Aside0 (RowAt W1 (w.heap.size + 1) 35 10 1 1 [.slice none 0 0, .slice none 0 0, .slice none 0 0, .slice none 0 0, .int .u32 0, .slice none 0 0, .int .i64 0, .slice none 0 0, .int .i64 0, .string ⟨#[]⟩]) := ⟨by rw [← hW1]; exact ⟨N1, Nat.le_refl _, by decide, rfl⟩⟩
    have B1 : Aside0 (Below w.heap.size w W1) := ⟨by rw [← hW1]; exact below_drew L0⟩
    have Z1 : Aside0 (W1.heap.size = w.heap.size + 2) := ⟨by rw [← hW1]; exact hz1⟩
    clear L0 N0 N1 N2 hz0 hz1
    go_enter Try.func23, Try.ntmps23
    go_wp2
    refine start_ (n := 15) (S := fun w' => w'.cell? ⟨w.heap.size, 0, none⟩ = some (.slice A0_0 l0_0.length c0_0) ∧ w'.cell? ⟨w.heap.size, 1, none⟩ = some (.slice A0_1 l0_1.length c0_1) ∧ w'.cell? ⟨w.heap.size, 3, none⟩ = some (.slice A0_3 l0_3.length c0_3)) (ds := [10, 12, 14]) #[false, false, false, false, false, false, false, false, false, false, false, false, false, false, false] (by kernel_rfl) rfl rfl (by rw [hW1]; exact ⟨BX1.out.cell rfl, BX1.out.cell rfl, BX1.out.cell rfl⟩) (fun hHeld => ?_)
    rw [hW1] at hHeld ⊢
    clear hW1
    refine pure_ (i := 0) (N := some 5) (v := ?_) (a' := ?_) #[true, false, false, false, false, false, false, false, false, false, false, false, false, false, false] rfl rfl (by kernel_rfl) (fun _ _ _ h => h) (Or.inl ⟨by rfl, ?_⟩) ?_ ?_
    rotate_left
    · intro w'
      go_simp
      with_reducible rfl
    rotate_left
    · simp only [Act.put, List.setIfInBounds_toArray, List.set_cons_zero, List.set_cons_succ]
      rfl
    refine pure_ (i := 3) (N := some 8) (v := ?_) (a' := ?_) #[true, false, false, true, false, false, false, false, false, false, false, false, false, false, false] rfl rfl (by kernel_rfl) (fun _ _ _ h => h) (Or.inl ⟨by rfl, ?_⟩) ?_ ?_
    rotate_left
    · intro w'
      go_simp
      with_reducible rfl
    rotate_left
    · simp only [Act.put, List.setIfInBounds_toArray, List.set_cons_zero, List.set_cons_succ]
      rfl
    refine pure_ (i := 6) (N := some 11) (v := ?_) (a' := ?_) #[true, false, false, true, false, false, true, false, false, false, false, false, false, false, false] rfl rfl (by kernel_rfl) (fun _ _ _ h => h) (Or.inl ⟨by rfl, ?_⟩) ?_ ?_
    rotate_left
    · intro w'
      go_simp
      with_reducible rfl
    rotate_left
    · simp only [Act.put, List.setIfInBounds_toArray, List.set_cons_zero, List.set_cons_succ]
      rfl
    refine take_ (i := 1) (N := some 6) (v := ?_) (a' := ?_) #[true, true, false, true, false, false, true, false, false, false, false, false, false, false, false] rfl rfl (by kernel_rfl) (fun _ _ _ h => h) (Or.inl ⟨by rfl, ?_⟩) hHeld ?_ ?_
    rotate_left
    · rintro w' ⟨s0, s1, s2⟩
      go_simp
      with_reducible rfl
    rotate_left
    · simp only [Act.put, List.setIfInBounds_toArray, List.set_cons_zero, List.set_cons_succ]
      rfl
    refine take_ (i := 4) (N := some 9) (v := ?_) (a' := ?_) #[true, true, false, true, true, false, true, false, false, false, false, false, false, false, false] rfl rfl (by kernel_rfl) (fun _ _ _ h => h) (Or.inl ⟨by rfl, ?_⟩) hHeld ?_ ?_
    rotate_left
    · rintro w' ⟨s0, s1, s2⟩
      go_simp
      with_reducible rfl
    rotate_left
    · simp only [Act.put, List.setIfInBounds_toArray, List.set_cons_zero, List.set_cons_succ]
      rfl
    refine take_ (i := 7) (N := some 12) (v := ?_) (a' := ?_) #[true, true, false, true, true, false, true, true, false, false, false, false, false, false, false] rfl rfl (by kernel_rfl) (fun _ _ _ h => h) (Or.inl ⟨by rfl, ?_⟩) hHeld ?_ ?_
    rotate_left
    · rintro w' ⟨s0, s1, s2⟩
      go_simp
      with_reducible rfl
    rotate_left
    · simp only [Act.put, List.setIfInBounds_toArray, List.set_cons_zero, List.set_cons_succ]
      rfl
    refine one_ (i := 2) (N := some 7) #[true, true, true, true, true, false, true, true, false, false, false, false, false, false, false] rfl rfl (by kernel_rfl) (by decide) (fun K hK => ?_)
    refine goes_ Try.func48 (by kernel_rfl) rfl #[.slice A0_0 l0_0.length c0_0] (by rfl) rfl rfl (by (try simp only [List.map_toArray, List.map_cons, List.map_nil]); rfl) ?_
    refine (slices_Clone_uint32_uint32.calls A0_0 c0_0 l0_0 l0_0 _ (Kd.C_below hr0_0.out B1.out) hc0_0.out fit0.out).mono ?_
    rintro e W2 ⟨v0, rfl, ho, hb⟩
    refine ⟨_, rfl, ?_⟩
    have V0 := Aside0.mk ho
    have BX2 := Aside0.mk (BX1.out.kept (hb.block _ (blk_lt BX1.out.1)))
    have BR2 := Aside0.mk (BR1.out.kept (hb.block _ (blk_lt BR1.out.1)))
    have B2 := Aside0.mk (below_then B1.out B1.out.size hb)
    have H2 := Aside0.mk hb
    clear ho hb
    refine hK.out _ _ ⟨BX2.out.cell rfl, BX2.out.cell rfl, BX2.out.cell rfl⟩ (fun hHeld => ?_)
    clear hK K
    refine norm_ (a' := ?_) ?_ ?_
    rotate_left
    · show Act.put _ (some 7) _ = _
      simp only [Act.put, List.setIfInBounds_toArray, List.set_cons_zero, List.set_cons_succ]
      rfl
    refine pure_ (i := 9) (N := some 14) (v := ?_) (a' := ?_) #[true, true, true, true, true, false, true, true, false, true, false, false, false, false, false] rfl rfl (by kernel_rfl) (fun _ _ _ h => h) (Or.inl ⟨by rfl, ?_⟩) ?_ ?_
    rotate_left
    · intro w'
      go_simp
      with_reducible rfl
    rotate_left
    · simp only [Act.put, List.setIfInBounds_toArray, List.set_cons_zero, List.set_cons_succ]
      rfl
    refine one_ (i := 5) (N := some 10) #[true, true, true, true, true, true, true, true, false, true, false, false, false, false, false] rfl rfl (by kernel_rfl) (by decide) (fun K hK => ?_)
    refine goes_ Try.func49 (by kernel_rfl) rfl #[.slice A0_1 l0_1.length c0_1] (by rfl) rfl rfl (by (try simp only [List.map_toArray, List.map_cons, List.map_nil]); rfl) ?_
    refine (slices_Clone_byte_byte.calls A0_1 c0_1 l0_1 l0_1 _ (Kd.C_below hr0_1.out B2.out) hc0_1.out fit1.out).mono ?_
    rintro e W3 ⟨v1, rfl, ho, hb⟩
    refine ⟨_, rfl, ?_⟩
    have V1 := Aside0.mk ho
    have BX3 := Aside0.mk (BX2.out.kept (hb.block _ (blk_lt BX2.out.1)))
    have BR3 := Aside0.mk (BR2.out.kept (hb.block _ (blk_lt BR2.out.1)))
    have B3 := Aside0.mk (below_then B2.out B2.out.size hb)
    have H3 := Aside0.mk hb
    clear ho hb
    refine hK.out _ _ ⟨BX3.out.cell rfl, BX3.out.cell rfl, BX3.out.cell rfl⟩ (fun hHeld => ?_)
    clear hK K
    refine norm_ (a' := ?_) ?_ ?_
    rotate_left
    · show Act.put _ (some 10) _ = _
      simp only [Act.put, List.setIfInBounds_toArray, List.set_cons_zero, List.set_cons_succ]
      rfl
    refine one_ (i := 8) (N := some 13) #[true, true, true, true, true, true, true, true, true, true, false, false, false, false, false] rfl rfl (by kernel_rfl) (by decide) (fun K hK => ?_)
    refine goes_ Try.func50 (by kernel_rfl) rfl #[.slice A0_3 l0_3.length c0_3] (by rfl) rfl rfl (by (try simp only [List.map_toArray, List.map_cons, List.map_nil]); rfl) ?_
    refine (slices_Clone_int_int.calls A0_3 c0_3 l0_3 l0_3 _ (Kd.C_below hr0_3.out B3.out) hc0_3.out fit3.out).mono ?_
    rintro e W4 ⟨v3, rfl, ho, hb⟩
    refine ⟨_, rfl, ?_⟩
    have V3 := Aside0.mk ho
    have BX4 := Aside0.mk (BX3.out.kept (hb.block _ (blk_lt BX3.out.1)))
    have BR4 := Aside0.mk (BR3.out.kept (hb.block _ (blk_lt BR3.out.1)))
    have B4 := Aside0.mk (below_then B3.out B3.out.size hb)
    have H4 := Aside0.mk hb
    clear ho hb
    refine hK.out _ _ ⟨BX4.out.cell rfl, BX4.out.cell rfl, BX4.out.cell rfl⟩ (fun hHeld => ?_)
    clear hK K
    refine norm_ (a' := ?_) ?_ ?_
    rotate_left
    · show Act.put _ (some 13) _ = _
      simp only [Act.put, List.setIfInBounds_toArray, List.set_cons_zero, List.set_cons_succ]
      rfl
    obtain ⟨Av0, cv0, ev0⟩ := Kd.R_slice V0.out
    subst ev0
    obtain ⟨Av1, cv1, ev1⟩ := Kd.R_slice V1.out
    subst ev1
    obtain ⟨Av3, cv3, ev3⟩ := Kd.R_slice V3.out
    subst ev3
    refine last_ (i := 10) (N := none) #[true, true, true, true, true, true, true, true, true, true, true, false, false, false, false] rfl rfl (by kernel_rfl) (by decide) (fun K hK => ?_)
    have hs := BX4.out.cell (show ([.slice A0_0 l0_0.length c0_0, .slice A0_1 l0_1.length c0_1, .slice A0_2 l0_2.length c0_2, .slice A0_3 l0_3.length c0_3, .int .u32 a0_4, .slice A0_5 l0_5.length c0_5, .int .i64 a0_6, .slice A0_7 l0_7.length c0_7, .int .i64 a0_8, .string a0_9] : List Value)[0]? = some (.slice A0_0 l0_0.length c0_0) from rfl)
    have hf := BX4.out.frozen 0
    refine skip_ (w1 := ?_) (by rfl) rfl ?_ ?_
    rotate_left
    · go_simp
      rfl
    refine hK.out _ _ ?_
    clear hK K
    obtain ⟨W5, hW5⟩ : ∃ W5, W4.setCell ⟨w.heap.size, 0, none⟩ (.slice Av0 l0_0.length cv0) = W5 := ⟨_, rfl⟩
    have BX5 : Aside0 (RowAt W5 w.heap.size 35 10 1 1 [.slice Av0 l0_0.length cv0, .slice A0_1 l0_1.length c0_1, .slice A0_2 l0_2.length c0_2, .slice A0_3 l0_3.length c0_3, .int .u32 a0_4, .slice A0_5 l0_5.length c0_5, .int .i64 a0_6, .slice A0_7 l0_7.length c0_7, .int .i64 a0_8, .string a0_9]) := ⟨by rw [← hW5]; exact BX4.out.set 0 (.slice Av0 l0_0.length cv0)⟩
    have BR5 : Aside0 (RowAt W5 (w.heap.size + 1) 35 10 1 1 [.slice none 0 0, .slice none 0 0, .slice none 0 0, .slice none 0 0, .int .u32 0, .slice none 0 0, .int .i64 0, .slice none 0 0, .int .i64 0, .string ⟨#[]⟩]) := ⟨by rw [← hW5]; exact BR4.out.kept (Below.heap_setCell _ _ _ _ (by simp))⟩
    have B5 : Aside0 (Below w.heap.size w W5) := ⟨by rw [← hW5]; exact B4.out.setCell (p := ⟨w.heap.size, 0, none⟩) (Nat.le_refl _) _⟩
    have K5 : Aside0 (KeepBut W4 W5 w.heap.size none) := ⟨by rw [← hW5]; exact (KeepBut.refl _ _ _).set_ _ _⟩
    rw [hW5]
    clear hW5 hs hf
    refine pure_ (i := 11) (N := some 15) (v := ?_) (a' := ?_) #[true, true, true, true, true, true, true, true, true, true, true, true, false, false, false] rfl rfl (by kernel_rfl) (fun _ _ _ h => h) (Or.inl ⟨by rfl, ?_⟩) ?_ ?_
    rotate_left
    · intro w'
      go_simp
      with_reducible rfl
    rotate_left
    · simp only [Act.put, List.setIfInBounds_toArray, List.set_cons_zero, List.set_cons_succ]
      rfl
    refine last_ (i := 12) (N := none) #[true, true, true, true, true, true, true, true, true, true, true, true, true, false, false] rfl rfl (by kernel_rfl) (by decide) (fun K hK => ?_)
    have hs := BX5.out.cell (show ([.slice Av0 l0_0.length cv0, .slice A0_1 l0_1.length c0_1, .slice A0_2 l0_2.length c0_2, .slice A0_3 l0_3.length c0_3, .int .u32 a0_4, .slice A0_5 l0_5.length c0_5, .int .i64 a0_6, .slice A0_7 l0_7.length c0_7, .int .i64 a0_8, .string a0_9] : List Value)[1]? = some (.slice A0_1 l0_1.length c0_1) from rfl)
    have hf := BX5.out.frozen 1
    refine skip_ (w1 := ?_) (by rfl) rfl ?_ ?_
    rotate_left
    · go_simp
      rfl
    refine hK.out _ _ ?_
    clear hK K
    obtain ⟨W6, hW6⟩ : ∃ W6, W5.setCell ⟨w.heap.size, 1, none⟩ (.slice Av1 l0_1.length cv1) = W6 := ⟨_, rfl⟩
    have BX6 : Aside0 (RowAt W6 w.heap.size 35 10 1 1 [.slice Av0 l0_0.length cv0, .slice Av1 l0_1.length cv1, .slice A0_2 l0_2.length c0_2, .slice A0_3 l0_3.length c0_3, .int .u32 a0_4, .slice A0_5 l0_5.length c0_5, .int .i64 a0_6, .slice A0_7 l0_7.length c0_7, .int .i64 a0_8, .string a0_9]) := ⟨by rw [← hW6]; exact BX5.out.set 1 (.slice Av1 l0_1.length cv1)⟩
    have BR6 : Aside0 (RowAt W6 (w.heap.size + 1) 35 10 1 1 [.slice none 0 0, .slice none 0 0, .slice none 0 0, .slice none 0 0, .int .u32 0, .slice none 0 0, .int .i64 0, .slice none 0 0, .int .i64 0, .string ⟨#[]⟩]) := ⟨by rw [← hW6]; exact BR5.out.kept (Below.heap_setCell _ _ _ _ (by simp))⟩
    have B6 : Aside0 (Below w.heap.size w W6) := ⟨by rw [← hW6]; exact B5.out.setCell (p := ⟨w.heap.size, 1, none⟩) (Nat.le_refl _) _⟩
    have K6 : Aside0 (KeepBut W5 W6 w.heap.size none) := ⟨by rw [← hW6]; exact (KeepBut.refl _ _ _).set_ _ _⟩
    rw [hW6]
    clear hW6 hs hf
    refine pure_ (i := 13) (N := some 16) (v := ?_) (a' := ?_) #[true, true, true, true, true, true, true, true, true, true, true, true, true, true, false] rfl rfl (by kernel_rfl) (fun _ _ _ h => h) (Or.inl ⟨by rfl, ?_⟩) ?_ ?_
    rotate_left
    · intro w'
      go_simp
      with_reducible rfl
    rotate_left
    · simp only [Act.put, List.setIfInBounds_toArray, List.set_cons_zero, List.set_cons_succ]
      rfl
    refine last_ (i := 14) (N := none) #[true, true, true, true, true, true, true, true, true, true, true, true, true, true, true] rfl rfl (by kernel_rfl) (by decide) (fun K hK => ?_)
    have hs := BX6.out.cell (show ([.slice Av0 l0_0.length cv0, .slice Av1 l0_1.length cv1, .slice A0_2 l0_2.length c0_2, .slice A0_3 l0_3.length c0_3, .int .u32 a0_4, .slice A0_5 l0_5.length c0_5, .int .i64 a0_6, .slice A0_7 l0_7.length c0_7, .int .i64 a0_8, .string a0_9] : List Value)[3]? = some (.slice A0_3 l0_3.length c0_3) from rfl)
    have hf := BX6.out.frozen 3
    refine skip_ (w1 := ?_) (by rfl) rfl ?_ ?_
    rotate_left
    · go_simp
      rfl
    refine hK.out _ _ ?_
    clear hK K
    obtain ⟨W7, hW7⟩ : ∃ W7, W6.setCell ⟨w.heap.size, 3, none⟩ (.slice Av3 l0_3.length cv3) = W7 := ⟨_, rfl⟩
    have BX7 : Aside0 (RowAt W7 w.heap.size 35 10 1 1 [.slice Av0 l0_0.length cv0, .slice Av1 l0_1.length cv1, .slice A0_2 l0_2.length c0_2, .slice Av3 l0_3.length cv3, .int .u32 a0_4, .slice A0_5 l0_5.length c0_5, .int .i64 a0_6, .slice A0_7 l0_7.length c0_7, .int .i64 a0_8, .string a0_9]) := ⟨by rw [← hW7]; exact BX6.out.set 3 (.slice Av3 l0_3.length cv3)⟩
    have BR7 : Aside0 (RowAt W7 (w.heap.size + 1) 35 10 1 1 [.slice none 0 0, .slice none 0 0, .slice none 0 0, .slice none 0 0, .int .u32 0, .slice none 0 0, .int .i64 0, .slice none 0 0, .int .i64 0, .string ⟨#[]⟩]) := ⟨by rw [← hW7]; exact BR6.out.kept (Below.heap_setCell _ _ _ _ (by simp))⟩
    have B7 : Aside0 (Below w.heap.size w W7) := ⟨by rw [← hW7]; exact B6.out.setCell (p := ⟨w.heap.size, 3, none⟩) (Nat.le_refl _) _⟩
    have K7 : Aside0 (KeepBut W6 W7 w.heap.size none) := ⟨by rw [← hW7]; exact (KeepBut.refl _ _ _).set_ _ _⟩
    rw [hW7]
    clear hW7 hs hf
    refine done_ (by kernel_rfl) ?_
    clear hHeld
    go_wp2
    obtain ⟨W8, hW8⟩ : ∃ W8, W7.drew = W8 := ⟨_, rfl⟩
    have BX8 : Aside0 (RowAt W8 w.heap.size 35 10 1 1 [.slice Av0 l0_0.length cv0, .slice Av1 l0_1.length cv1, .slice A0_2 l0_2.length c0_2, .slice Av3 l0_3.length cv3, .int .u32 a0_4, .slice A0_5 l0_5.length c0_5, .int .i64 a0_6, .slice A0_7 l0_7.length c0_7, .int .i64 a0_8, .string a0_9]) := ⟨by rw [← hW8]; exact BX7.out⟩
    have BR8 : Aside0 (RowAt W8 (w.heap.size + 1) 35 10 1 1 [.slice none 0 0, .slice none 0 0, .slice none 0 0, .slice none 0 0, .int .u32 0, .slice none 0 0, .int .i64 0, .slice none 0 0, .int .i64 0, .string ⟨#[]⟩]) := ⟨by rw [← hW8]; exact BR7.out⟩
    have B8 : Aside0 (Below w.heap.size w W8) := ⟨by rw [← hW8]; exact below_drew B7.out⟩
    have K8 : Aside0 (KeepBut W7 W8 w.heap.size none) := ⟨by rw [← hW8]; exact KeepBut.refl W7 w.heap.size none⟩
    refine start_ (n := 15) (S := fun w' => w'.cell? ⟨w.heap.size, 2, none⟩ = some (.slice A0_2 l0_2.length c0_2) ∧ w'.cell? ⟨w.heap.size, 7, none⟩ = some (.slice A0_7 l0_7.length c0_7) ∧ w'.cell? ⟨w.heap.size, 5, none⟩ = some (.slice A0_5 l0_5.length c0_5)) (ds := [10, 12, 14]) #[false, false, false, false, false, false, false, false, false, false, false, false, false, false, false] (by kernel_rfl) rfl rfl (by rw [hW8]; exact ⟨BX8.out.cell rfl, BX8.out.cell rfl, BX8.out.cell rfl⟩) (fun hHeld => ?_)
    rw [hW8] at hHeld ⊢
    clear hW8
    refine pure_ (i := 0) (N := some 17) (v := ?_) (a' := ?_) #[true, false, false, false, false, false, false, false, false, false, false, false, false, false, false] rfl rfl (by kernel_rfl) (fun _ _ _ h => h) (Or.inl ⟨by rfl, ?_⟩) ?_ ?_
    rotate_left
    · intro w'
      go_simp
      with_reducible rfl
    rotate_left
    · simp only [Act.put, List.setIfInBounds_toArray, List.set_cons_zero, List.set_cons_succ]
      rfl
    refine pure_ (i := 3) (N := some 20) (v := ?_) (a' := ?_) #[true, false, false, true, false, false, false, false, false, false, false, false, false, false, false] rfl rfl (by kernel_rfl) (fun _ _ _ h => h) (Or.inl ⟨by rfl, ?_⟩) ?_ ?_
    rotate_left
    · intro w'
      go_simp
      with_reducible rfl
    rotate_left
    · simp only [Act.put, List.setIfInBounds_toArray, List.set_cons_zero, List.set_cons_succ]
      rfl
    refine pure_ (i := 6) (N := some 23) (v := ?_) (a' := ?_) #[true, false, false, true, false, false, true, false, false, false, false, false, false, false, false] rfl rfl (by kernel_rfl) (fun _ _ _ h => h) (Or.inl ⟨by rfl, ?_⟩) ?_ ?_
    rotate_left
    · intro w'
      go_simp
      with_reducible rfl
    rotate_left
    · simp only [Act.put, List.setIfInBounds_toArray, List.set_cons_zero, List.set_cons_succ]
      rfl
    refine take_ (i := 1) (N := some 18) (v := ?_) (a' := ?_) #[true, true, false, true, false, false, true, false, false, false, false, false, false, false, false] rfl rfl (by kernel_rfl) (fun _ _ _ h => h) (Or.inl ⟨by rfl, ?_⟩) hHeld ?_ ?_
    rotate_left
    · rintro w' ⟨s0, s1, s2⟩
      go_simp
      with_reducible rfl
    rotate_left
    · simp only [Act.put, List.setIfInBounds_toArray, List.set_cons_zero, List.set_cons_succ]
      rfl
    refine take_ (i := 4) (N := some 21) (v := ?_) (a' := ?_) #[true, true, false, true, true, false, true, false, false, false, false, false, false, false, false] rfl rfl (by kernel_rfl) (fun _ _ _ h => h) (Or.inl ⟨by rfl, ?_⟩) hHeld ?_ ?_
    rotate_left
    · rintro w' ⟨s0, s1, s2⟩
      go_simp
      with_reducible rfl
    rotate_left
    · simp only [Act.put, List.setIfInBounds_toArray, List.set_cons_zero, List.set_cons_succ]
      rfl
    refine take_ (i := 7) (N := some 24) (v := ?_) (a' := ?_) #[true, true, false, true, true, false, true, true, false, false, false, false, false, false, false] rfl rfl (by kernel_rfl) (fun _ _ _ h => h) (Or.inl ⟨by rfl, ?_⟩) hHeld ?_ ?_
    rotate_left
    · rintro w' ⟨s0, s1, s2⟩
      go_simp
      with_reducible rfl
    rotate_left
    · simp only [Act.put, List.setIfInBounds_toArray, List.set_cons_zero, List.set_cons_succ]
      rfl
    refine one_ (i := 2) (N := some 19) #[true, true, true, true, true, false, true, true, false, false, false, false, false, false, false] rfl rfl (by kernel_rfl) (by decide) (fun K hK => ?_)
    refine goes_ Try.func51 (by kernel_rfl) rfl #[.slice A0_2 l0_2.length c0_2] (by rfl) rfl rfl (by (try simp only [List.map_toArray, List.map_cons, List.map_nil]); rfl) ?_
    refine (clone51 A0_2 c0_2 l0_2 w _ hr0_2.out B8.out hc0_2.out fit2.out).mono ?_
    rintro e W9 ⟨v2, inner2, rfl, ho, hr, hb⟩
    refine ⟨_, rfl, ?_⟩
    have V2 := Aside0.mk ho
    have P2 := Aside0.mk hr
    have BX9 := Aside0.mk (BX8.out.kept (hb.block _ (blk_lt BX8.out.1)))
    have BR9 := Aside0.mk (BR8.out.kept (hb.block _ (blk_lt BR8.out.1)))
    have B9 := Aside0.mk (below_then B8.out B8.out.size hb)
    have H9 := Aside0.mk hb
    clear ho hr hb
    refine hK.out _ _ ⟨BX9.out.cell rfl, BX9.out.cell rfl, BX9.out.cell rfl⟩ (fun hHeld => ?_)
    clear hK K
    refine norm_ (a' := ?_) ?_ ?_
    rotate_left
    · show Act.put _ (some 19) _ = _
      simp only [Act.put, List.setIfInBounds_toArray, List.set_cons_zero, List.set_cons_succ]
      rfl
    refine pure_ (i := 9) (N := some 26) (v := ?_) (a' := ?_) #[true, true, true, true, true, false, true, true, false, true, false, false, false, false, false] rfl rfl (by kernel_rfl) (fun _ _ _ h => h) (Or.inl ⟨by rfl, ?_⟩) ?_ ?_
    rotate_left
    · intro w'
      go_simp
      with_reducible rfl
    rotate_left
    · simp only [Act.put, List.setIfInBounds_toArray, List.set_cons_zero, List.set_cons_succ]
      rfl
    refine one_ (i := 5) (N := some 22) #[true, true, true, true, true, true, true, true, false, true, false, false, false, false, false] rfl rfl (by kernel_rfl) (by decide) (fun K hK => ?_)
    refine goes_ Try.func52 (by kernel_rfl) rfl #[.slice A0_7 l0_7.length c0_7] (by rfl) rfl rfl (by (try simp only [List.map_toArray, List.map_cons, List.map_nil]); rfl) ?_
    refine (clone52 A0_7 c0_7 l0_7 w _ hr0_7.out B9.out hc0_7.out fit7.out).mono ?_
    rintro e W10 ⟨v7, inner7, rfl, ho, hr, hb⟩
    refine ⟨_, rfl, ?_⟩
    have V7 := Aside0.mk ho
    have P7 := Aside0.mk hr
    have BX10 := Aside0.mk (BX9.out.kept (hb.block _ (blk_lt BX9.out.1)))
    have BR10 := Aside0.mk (BR9.out.kept (hb.block _ (blk_lt BR9.out.1)))
    have B10 := Aside0.mk (below_then B9.out B9.out.size hb)
    have H10 := Aside0.mk hb
    clear ho hr hb
    refine hK.out _ _ ⟨BX10.out.cell rfl, BX10.out.cell rfl, BX10.out.cell rfl⟩ (fun hHeld => ?_)
    clear hK K
    refine norm_ (a' := ?_) ?_ ?_
    rotate_left
    · show Act.put _ (some 22) _ = _
      simp only [Act.put, List.setIfInBounds_toArray, List.set_cons_zero, List.set_cons_succ]
      rfl
    refine one_ (i := 8) (N := some 25) #[true, true, true, true, true, true, true, true, true, true, false, false, false, false, false] rfl rfl (by kernel_rfl) (by decide) (fun K hK => ?_)
    refine goes_ Try.func53 (by kernel_rfl) rfl #[.slice A0_5 l0_5.length c0_5] (by rfl) rfl rfl (by (try simp only [List.map_toArray, List.map_cons, List.map_nil]); rfl) ?_
    refine (tree_Copy.calls A0_5 c0_5 l0_5 l0_5 _ (Kd.C_below hr0_5.out B10.out) hc0_5.out fit5.out).mono ?_
    rintro e W11 ⟨v5, rfl, ho, hb⟩
    refine ⟨_, rfl, ?_⟩
    have V5 := Aside0.mk ho
    have BX11 := Aside0.mk (BX10.out.kept (hb.block _ (blk_lt BX10.out.1)))
    have BR11 := Aside0.mk (BR10.out.kept (hb.block _ (blk_lt BR10.out.1)))
    have B11 := Aside0.mk (below_then B10.out B10.out.size hb)
    have H11 := Aside0.mk hb
    clear ho hb
    refine hK.out _ _ ⟨BX11.out.cell rfl, BX11.out.cell rfl, BX11.out.cell rfl⟩ (fun hHeld => ?_)
    clear hK K
    refine norm_ (a' := ?_) ?_ ?_
    rotate_left
    · show Act.put _ (some 25) _ = _
      simp only [Act.put, List.setIfInBounds_toArray, List.set_cons_zero, List.set_cons_succ]
      rfl
    obtain ⟨Av5, cv5, ev5⟩ := Kd.R_slice V5.out
    subst ev5
    obtain ⟨Av2, cv2, ev2⟩ := own_slice V2.out
    subst ev2
    obtain ⟨Av7, cv7, ev7⟩ := own_slice V7.out
    subst ev7
    refine last_ (i := 10) (N := none) #[true, true, true, true, true, true, true, true, true, true, true, false, false, false, false] rfl rfl (by kernel_rfl) (by decide) (fun K hK => ?_)
    have hs := BX11.out.cell (show ([.slice Av0 l0_0.length cv0, .slice Av1 l0_1.length cv1, .slice A0_2 l0_2.length c0_2, .slice Av3 l0_3.length cv3, .int .u32 a0_4, .slice A0_5 l0_5.length c0_5, .int .i64 a0_6, .slice A0_7 l0_7.length c0_7, .int .i64 a0_8, .string a0_9] : List Value)[2]? = some (.slice A0_2 l0_2.length c0_2) from rfl)
    have hf := BX11.out.frozen 2
    refine skip_ (w1 := ?_) (by rfl) rfl ?_ ?_
    rotate_left
    · go_simp
      rfl
    refine hK.out _ _ ?_
    clear hK K
    obtain ⟨W12, hW12⟩ : ∃ W12, W11.setCell ⟨w.heap.size, 2, none⟩ (.slice Av2 l0_2.length cv2) = W12 := ⟨_, rfl⟩
    have BX12 : Aside0 (RowAt W12 w.heap.size 35 10 1 1 [.slice Av0 l0_0.length cv0, .slice Av1 l0_1.length cv1, .slice Av2 l0_2.length cv2, .slice Av3 l0_3.length cv3, .int .u32 a0_4, .slice A0_5 l0_5.length c0_5, .int .i64 a0_6, .slice A0_7 l0_7.length c0_7, .int .i64 a0_8, .string a0_9]) := ⟨by rw [← hW12]; exact BX11.out.set 2 (.slice Av2 l0_2.length cv2)⟩
    have BR12 : Aside0 (RowAt W12 (w.heap.size + 1) 35 10 1 1 [.slice none 0 0, .slice none 0 0, .slice none 0 0, .slice none 0 0, .int .u32 0, .slice none 0 0, .int .i64 0, .slice none 0 0, .int .i64 0, .string ⟨#[]⟩]) := ⟨by rw [← hW12]; exact BR11.out.kept (Below.heap_setCell _ _ _ _ (by simp))⟩
    have B12 : Aside0 (Below w.heap.size w W12) := ⟨by rw [← hW12]; exact B11.out.setCell (p := ⟨w.heap.size, 2, none⟩) (Nat.le_refl _) _⟩
    have K12 : Aside0 (KeepBut W11 W12 w.heap.size none) := ⟨by rw [← hW12]; exact (KeepBut.refl _ _ _).set_ _ _⟩
    rw [hW12]
    clear hW12 hs hf
    refine pure_ (i := 11) (N := some 27) (v := ?_) (a' := ?_) #[true, true, true, true, true, true, true, true, true, true, true, true, false, false, false] rfl rfl (by kernel_rfl) (fun _ _ _ h => h) (Or.inl ⟨by rfl, ?_⟩) ?_ ?_
    rotate_left
    · intro w'
      go_simp
      with_reducible rfl
    rotate_left
    · simp only [Act.put, List.setIfInBounds_toArray, List.set_cons_zero, List.set_cons_succ]
      rfl
    refine last_ (i := 12) (N := none) #[true, true, true, true, true, true, true, true, true, true, true, true, true, false, false] rfl rfl (by kernel_rfl) (by decide) (fun K hK => ?_)
    have hs := BX12.out.cell (show ([.slice Av0 l0_0.length cv0, .slice Av1 l0_1.length cv1, .slice Av2 l0_2.length cv2, .slice Av3 l0_3.length cv3, .int .u32 a0_4, .slice A0_5 l0_5.length c0_5, .int .i64 a0_6, .slice A0_7 l0_7.length c0_7, .int .i64 a0_8, .string a0_9] : List Value)[7]? = some (.slice A0_7 l0_7.length c0_7) from rfl)
    have hf := BX12.out.frozen 7
    refine skip_ (w1 := ?_) (by rfl) rfl ?_ ?_
    rotate_left
    · go_simp
      rfl
    refine hK.out _ _ ?_
    clear hK K
    obtain ⟨W13, hW13⟩ : ∃ W13, W12.setCell ⟨w.heap.size, 7, none⟩ (.slice Av7 l0_7.length cv7) = W13 := ⟨_, rfl⟩
    have BX13 : Aside0 (RowAt W13 w.heap.size 35 10 1 1 [.slice Av0 l0_0.length cv0, .slice Av1 l0_1.length cv1, .slice Av2 l0_2.length cv2, .slice Av3 l0_3.length cv3, .int .u32 a0_4, .slice A0_5 l0_5.length c0_5, .int .i64 a0_6, .slice Av7 l0_7.length cv7, .int .i64 a0_8, .string a0_9]) := ⟨by rw [← hW13]; exact BX12.out.set 7 (.slice Av7 l0_7.length cv7)⟩
    have BR13 : Aside0 (RowAt W13 (w.heap.size + 1) 35 10 1 1 [.slice none 0 0, .slice none 0 0, .slice none 0 0, .slice none 0 0, .int .u32 0, .slice none 0 0, .int .i64 0, .slice none 0 0, .int .i64 0, .string ⟨#[]⟩]) := ⟨by rw [← hW13]; exact BR12.out.kept (Below.heap_setCell _ _ _ _ (by simp))⟩
    have B13 : Aside0 (Below w.heap.size w W13) := ⟨by rw [← hW13]; exact B12.out.setCell (p := ⟨w.heap.size, 7, none⟩) (Nat.le_refl _) _⟩
    have K13 : Aside0 (KeepBut W12 W13 w.heap.size none) := ⟨by rw [← hW13]; exact (KeepBut.refl _ _ _).set_ _ _⟩
    rw [hW13]
    clear hW13 hs hf
    refine pure_ (i := 13) (N := some 28) (v := ?_) (a' := ?_) #[true, true, true, true, true, true, true, true, true, true, true, true, true, true, false] rfl rfl (by kernel_rfl) (fun _ _ _ h => h) (Or.inl ⟨by rfl, ?_⟩) ?_ ?_
    rotate_left
    · intro w'
      go_simp
      with_reducible rfl
    rotate_left
    · simp only [Act.put, List.setIfInBounds_toArray, List.set_cons_zero, List.set_cons_succ]
      rfl
    refine last_ (i := 14) (N := none) #[true, true, true, true, true, true, true, true, true, true, true, true, true, true, true] rfl rfl (by kernel_rfl) (by decide) (fun K hK => ?_)
    have hs := BX13.out.cell (show ([.slice Av0 l0_0.length cv0, .slice Av1 l0_1.length cv1, .slice Av2 l0_2.length cv2, .slice Av3 l0_3.length cv3, .int .u32 a0_4, .slice A0_5 l0_5.length c0_5, .int .i64 a0_6, .slice Av7 l0_7.length cv7, .int .i64 a0_8, .string a0_9] : List Value)[5]? = some (.slice A0_5 l0_5.length c0_5) from rfl)
    have hf := BX13.out.frozen 5
    refine skip_ (w1 := ?_) (by rfl) rfl ?_ ?_
    rotate_left
    · go_simp
      rfl
    refine hK.out _ _ ?_
    clear hK K
    obtain ⟨W14, hW14⟩ : ∃ W14, W13.setCell ⟨w.heap.size, 5, none⟩ (.slice Av5 l0_5.length cv5) = W14 := ⟨_, rfl⟩
    have BX14 : Aside0 (RowAt W14 w.heap.size 35 10 1 1 [.slice Av0 l0_0.length cv0, .slice Av1 l0_1.length cv1, .slice Av2 l0_2.length cv2, .slice Av3 l0_3.length cv3, .int .u32 a0_4, .slice Av5 l0_5.length cv5, .int .i64 a0_6, .slice Av7 l0_7.length cv7, .int .i64 a0_8, .string a0_9]) := ⟨by rw [← hW14]; exact BX13.out.set 5 (.slice Av5 l0_5.length cv5)⟩
    have BR14 : Aside0 (RowAt W14 (w.heap.size + 1) 35 10 1 1 [.slice none 0 0, .slice none 0 0, .slice none 0 0, .slice none 0 0, .int .u32 0, .slice none 0 0, .int .i64 0, .slice none 0 0, .int .i64 0, .string ⟨#[]⟩]) := ⟨by rw [← hW14]; exact BR13.out.kept (Below.heap_setCell _ _ _ _ (by simp))⟩
    have B14 : Aside0 (Below w.heap.size w W14) := ⟨by rw [← hW14]; exact B13.out.setCell (p := ⟨w.heap.size, 5, none⟩) (Nat.le_refl _) _⟩
    have K14 : Aside0 (KeepBut W13 W14 w.heap.size none) := ⟨by rw [← hW14]; exact (KeepBut.refl _ _ _).set_ _ _⟩
    rw [hW14]
    clear hW14 hs hf
    refine done_ (by kernel_rfl) ?_
    clear hHeld
    have z1 := Z1.out
    have z2 := H2.out.size
    have z3 := H3.out.size
    have z4 := H4.out.size
    have z5 := K5.out.1
    have z6 := K6.out.1
    have z7 := K7.out.1
    have z8 := K8.out.1
    have z9 := H9.out.size
    have z10 := H10.out.size
    have z11 := H11.out.size
    have k14 : KeepBut W11 W14 w.heap.size none := (K12.out.trans K13.out (.inl rfl)).trans K14.out (.inl rfl)
    have k11 : KeepBut W10 W14 w.heap.size none := (KeepBut.of_below H11.out _ _).trans k14 (.inl rfl)
    have k10 : KeepBut W9 W14 w.heap.size none := (KeepBut.of_below H10.out _ _).trans k11 (.inl rfl)
    have k9 : KeepBut W8 W14 w.heap.size none := (KeepBut.of_below H9.out _ _).trans k10 (.inl rfl)
    have k4 : KeepBut W4 W14 w.heap.size none := ((((K5.out.trans K6.out (.inl rfl)).trans K7.out (.inl rfl)).trans K8.out (.inl rfl))).trans k9 (.inl rfl)
    have k3 : KeepBut W3 W14 w.heap.size none := (KeepBut.of_below H4.out _ _).trans k4 (.inl rfl)
    have k2 : KeepBut W2 W14 w.heap.size none := (KeepBut.of_below H3.out _ _).trans k3 (.inl rfl)
    have U0 : Aside0 (Kd.R (Kd.int .u32) 31 W14 w.heap.size (fun k => w.heap.size + 2 ≤ k ∧ k < W2.heap.size) (.slice Av0 l0_0.length cv0) l0_0) := ⟨Kd.R_lower (Kd.R_keep (Kd.R_mono (Kd.R_bound V0.out) (fun k hk => ⟨by have := hk.2.1; omega, hk.2.2.1⟩)) k2 (fun k hk => by have := hk.1; omega)) (by omega)⟩
    have U1 : Aside0 (Kd.R (Kd.int .u8) 5 W14 w.heap.size (fun k => w.heap.size + 2 ≤ k ∧ k < W3.heap.size) (.slice Av1 l0_1.length cv1) l0_1) := ⟨Kd.R_lower (Kd.R_keep (Kd.R_mono (Kd.R_bound V1.out) (fun k hk => ⟨by have := hk.2.1; omega, hk.2.2.1⟩)) k3 (fun k hk => by have := hk.1; omega)) (by omega)⟩
    have U3 : Aside0 (Kd.R (Kd.int .i64) 3 W14 w.heap.size (fun k => w.heap.size + 2 ≤ k) (.slice Av3 l0_3.length cv3) l0_3) := ⟨Kd.R_lower (Kd.R_keep (Kd.R_mono (Kd.R_bound V3.out) (fun k hk => by have := hk.2.1; omega)) k4 (fun k hk => by omega)) (by omega)⟩
    have U5 : Aside0 (Kd.R k92 92 W14 w.heap.size (fun k => W10.heap.size ≤ k) (.slice Av5 l0_5.length cv5) l0_5) := ⟨Kd.R_lower (Kd.R_keep (Kd.R_mono (Kd.R_bound V5.out) (fun k hk => hk.2.1)) k14 (fun k hk => by omega)) (by omega)⟩
    have hlo2 : ∀ k, (Value.slice Av2 l0_2.length cv2).ownBlock = some k → W8.heap.size ≤ k ∧ k < W9.heap.size := fun k hk => ⟨own_base V2.out k hk, own_lt V2.out k hk⟩
    have hlo7 : ∀ k, (Value.slice Av7 l0_7.length cv7).ownBlock = some k → W9.heap.size ≤ k ∧ k < W10.heap.size := fun k hk => ⟨own_base V7.out k hk, own_lt V7.out k hk⟩
    have lt0 : ∀ k, (Value.slice Av0 l0_0.length cv0).ownBlock = some k → k < W2.heap.size := fun k hk => Kd.R_lt V0.out k hk
    have lt1 : ∀ k, (Value.slice Av1 l0_1.length cv1).ownBlock = some k → k < W3.heap.size := fun k hk => Kd.R_lt V1.out k hk
    have Q2 : Aside0 (Half k45 45 w W14 w.heap.size (fun _ => True) (fun _ => 0) (.slice Av2 l0_2.length cv2) l0_2 0 inner2) := ⟨Half.start _ (own_move (own_less V2.out (by omega)) (fun k hk => k10.2 k (hlo2 k hk).2 (by have := (hlo2 k hk).1; omega) (by simp))) P2.out (fun _ _ => trivial)⟩
    have Q7 : Aside0 (W14.ownsRow w.heap.size 80 4 (.slice Av7 l0_7.length cv7) l0_7.length inner7) := ⟨own_move (own_less V7.out (by omega)) (fun k hk => k11.2 k (hlo7 k hk).2 (by have := (hlo7 k hk).1; omega) (by simp))⟩
    have LO2 := Aside0.mk hlo2
    have LO7 := Aside0.mk hlo7
    have LT0 := Aside0.mk lt0
    have LT1 := Aside0.mk lt1
    have SZ : Aside0 (w.heap.size + 2 ≤ W2.heap.size ∧ W2.heap.size ≤ W3.heap.size ∧ W3.heap.size ≤ W8.heap.size ∧ W8.heap.size ≤ W9.heap.size ∧ W9.heap.size ≤ W10.heap.size ∧ W10.heap.size ≤ W14.heap.size) := ⟨by have := k11.1; omega⟩
    clear hlo2 hlo7 lt0 lt1 k14 k11 k10 k9 k4 k3 k2 z1 z2 z3 z4 z5 z6 z7 z8 z9 z10 z11 V0 V1 V3 V5 V2 V7 P2
    clear BX1 BX2 BX3 BX4 BX5 BX6 BX7 BX8 BX9 BX10 BX11 BX12 BX13 BR1 BR2 BR3 BR4 BR5 BR6 BR7 BR8 BR9 BR10 BR11 BR12 BR13 B1 B2 B3 B4 B5 B6 B7 B8 B9 B10 B11 B12 B13 H2 H3 H4 H9 H10 H11 K5 K6 K7 K8 K12 K13 K14 Z1
    have q2 := BX14.out.cell (show ([.slice Av0 l0_0.length cv0, .slice Av1 l0_1.length cv1, .slice Av2 l0_2.length cv2, .slice Av3 l0_3.length cv3, .int .u32 a0_4, .slice Av5 l0_5.length cv5, .int .i64 a0_6, .slice Av7 l0_7.length cv7, .int .i64 a0_8, .string a0_9] : List Value)[2]? = some (.slice Av2 l0_2.length cv2) from rfl)
    go_wp2
    clear q2
    go_loopg [3, 32] l0_2.length (fun gg _ sc wr => ∃ (kk : Nat) (f : Nat → Nat) (inner : List Value), kk ≤ l0_2.length ∧ l0_2.length - kk ≤ gg ∧ sc = .int .i64 kk ∧ Aside0 (Half k45 45 w wr w.heap.size (fun _ => True) f (.slice Av2 l0_2.length cv2) l0_2 kk inner) ∧ Aside0 (W14.grownBy wr (.slice Av2 l0_2.length cv2 : Value).ownBlock) ∧ Aside0 (Below w.heap.size w wr))
    case atStart => exact ⟨0, _, inner2, Nat.zero_le _, by omega, rfl, Q2, ⟨⟨rfl, rfl, rfl, Nat.le_refl _, fun _ _ _ => rfl⟩⟩, B14⟩
    case round =>
      obtain ⟨kk, f, inner, hkk, hgg, rfl, HF, GR, BW⟩ := hrel
      by_cases hlt : kk < l0_2.length
      · have hltz : (kk : Int) < (l0_2.length : Int) := by omega
        have hk0 : (0 : Int) ≤ (kk : Int) := by omega
        obtain ⟨x, hx⟩ : ∃ x, l0_2[kk]? = some x := ⟨_, List.getElem?_eq_getElem hlt⟩
        have hxf := fit2a.out x (List.mem_of_getElem? hx)
        unfold opsFits at hxf
        simp only [decide_eq_true_eq] at hxf
        have fitx : Aside0 (api_Op.f x.f4 = some x.f4) := ⟨if_pos hxf⟩
        obtain ⟨g, cap, hgv, hgb, hgl⟩ := HF.out.form hx
        injection hgv with e1 _ e3
        subst e1
        subst e3
        obtain ⟨hK, hcells⟩ := HF.out.read hx
        obtain ⟨Ax, cx, hseg, lx, gx⟩ := k45_open hK
        replace hseg : seg 5 inner kk = _ := hseg
        have qd : wr.cell? ⟨g, kk * 5 + 4, none⟩ = some (.slice Ax x.f4.length cx) := (hcells 4 (by decide)).trans (by show (seg 5 inner kk)[4]? = _; rw [hseg]; rfl)
        have hnb : some w.heap.size ≠ (Value.slice (some ⟨g, 0, none⟩) l0_2.length cv2).ownBlock := by have := (LO2.out g rfl).1; have := SZ.out; simp [Value.ownBlock]; omega
        have BXr : Aside0 (RowAt wr w.heap.size 35 10 1 1 [.slice Av0 l0_0.length cv0, .slice Av1 l0_1.length cv1, .slice (some ⟨g, 0, none⟩) l0_2.length cv2, .slice Av3 l0_3.length cv3, .int .u32 a0_4, .slice Av5 l0_5.length cv5, .int .i64 a0_6, .slice Av7 l0_7.length cv7, .int .i64 a0_8, .string a0_9]) := ⟨BX14.out.kept (GR.out.block _ (blk_lt BX14.out.1) hnb)⟩
        have q2 := BXr.out.cell (show ([.slice Av0 l0_0.length cv0, .slice Av1 l0_1.length cv1, .slice (some ⟨g, 0, none⟩) l0_2.length cv2, .slice Av3 l0_3.length cv3, .int .u32 a0_4, .slice Av5 l0_5.length cv5, .int .i64 a0_6, .slice Av7 l0_7.length cv7, .int .i64 a0_8, .string a0_9] : List Value)[2]? = some (.slice (some ⟨g, 0, none⟩) l0_2.length cv2) from rfl)
        have HX := Aside0.mk hx
        have HSEG := Aside0.mk hseg
        replace lx := Aside0.mk lx
        replace gx := Aside0.mk gx
        have p0 := eq_true hk0
        have p1 := eq_true hltz
        clear hx hxf hK hcells hseg hnb
        go_wp2
        refine start_ (n := 13) (S := fun w' => w'.cell? ⟨w.heap.size, 2, none⟩ = some (.slice (some ⟨g, 0, none⟩) l0_2.length cv2) ∧ w'.cell? ⟨g, kk * 5 + 4, none⟩ = some (.slice Ax x.f4.length cx)) (ds := [12]) #[false, false, false, false, false, false, false, false, false, false, false, false, false] (by kernel_rfl) rfl rfl ⟨q2, qd⟩ (fun hHeld => ?_)
        obtain ⟨WI, hWI⟩ : ∃ WI, wr.drew = WI := ⟨_, rfl⟩
        have HI : Aside0 (Half k45 45 w WI w.heap.size (fun _ => True) f (.slice (some ⟨g, 0, none⟩) l0_2.length cv2) l0_2 kk inner) := ⟨by rw [← hWI]; exact HF.out.move (fun _ _ _ => rfl)⟩
        have GI : Aside0 (W14.grownBy WI (some g)) := ⟨by rw [← hWI]; exact ⟨GR.out.os, GR.out.tape, GR.out.output, GR.out.size, GR.out.block⟩⟩
        have BI : Aside0 (Below w.heap.size w WI) := ⟨by rw [← hWI]; exact below_drew BW.out⟩
        have BXI : Aside0 (RowAt WI w.heap.size 35 10 1 1 [.slice Av0 l0_0.length cv0, .slice Av1 l0_1.length cv1, .slice (some ⟨g, 0, none⟩) l0_2.length cv2, .slice Av3 l0_3.length cv3, .int .u32 a0_4, .slice Av5 l0_5.length cv5, .int .i64 a0_6, .slice Av7 l0_7.length cv7, .int .i64 a0_8, .string a0_9]) := ⟨by rw [← hWI]; exact BXr.out⟩
        have hgl2 : g < WI.heap.size := by rw [← hWI]; exact hgl
        rw [hWI] at hHeld ⊢
        clear hWI HF GR BW BXr q2 qd
        refine pure_ (i := 0) (N := some 35) (v := ?_) (a' := ?_) #[true, false, false, false, false, false, false, false, false, false, false, false, false] rfl rfl (by kernel_rfl) (fun _ _ _ h => h) (Or.inl ⟨by rfl, ?_⟩) ?_ ?_
        rotate_left
        · intro w'
          go_simp
          with_reducible rfl
        rotate_left
        · simp only [Act.put, List.setIfInBounds_toArray, List.set_cons_zero, List.set_cons_succ]
          rfl
        refine pure_ (i := 2) (N := some 37) (v := ?_) (a' := ?_) #[true, false, true, false, false, false, false, false, false, false, false, false, false] rfl rfl (by kernel_rfl) (fun _ _ _ h => h) (Or.inl ⟨by rfl, ?_⟩) ?_ ?_
        rotate_left
        · intro w'
          go_simp
          with_reducible rfl
        rotate_left
        · simp only [Act.put, List.setIfInBounds_toArray, List.set_cons_zero, List.set_cons_succ]
          rfl
        refine pure_ (i := 3) (N := some 38) (v := ?_) (a' := ?_) #[true, false, true, true, false, false, false, false, false, false, false, false, false] rfl rfl (by kernel_rfl) (fun _ _ _ h => h) (Or.inl ⟨by rfl, ?_⟩) ?_ ?_
        rotate_left
        · intro w'
          go_simp
          with_reducible rfl
        rotate_left
        · simp only [Act.put, List.setIfInBounds_toArray, List.set_cons_zero, List.set_cons_succ]
          rfl
        refine pure_ (i := 5) (N := some 40) (v := ?_) (a' := ?_) #[true, false, true, true, false, true, false, false, false, false, false, false, false] rfl rfl (by kernel_rfl) (fun _ _ _ h => h) (Or.inl ⟨by rfl, ?_⟩) ?_ ?_
        rotate_left
        · intro w'
          go_simp
          with_reducible rfl
        rotate_left
        · simp only [Act.put, List.setIfInBounds_toArray, List.set_cons_zero, List.set_cons_succ]
          rfl
        refine take_ (i := 1) (N := some 36) (v := ?_) (a' := ?_) #[true, true, true, true, false, true, false, false, false, false, false, false, false] rfl rfl (by kernel_rfl) (fun _ _ _ h => h) (Or.inl ⟨by rfl, ?_⟩) hHeld ?_ ?_
        rotate_left
        · rintro w' ⟨s0, s1⟩
          go_simp
          with_reducible rfl
        rotate_left
        · simp only [Act.put, List.setIfInBounds_toArray, List.set_cons_zero, List.set_cons_succ]
          rfl
        refine take_ (i := 4) (N := some 39) (v := ?_) (a' := ?_) #[true, true, true, true, true, true, false, false, false, false, false, false, false] rfl rfl (by kernel_rfl) (fun _ _ _ h => h) (Or.inl ⟨by rfl, ?_⟩) hHeld ?_ ?_
        rotate_left
        · rintro w' ⟨s0, s1⟩
          go_simp
          with_reducible rfl
        rotate_left
        · simp only [Act.put, List.setIfInBounds_toArray, List.set_cons_zero, List.set_cons_succ]
          rfl
        refine pure_ (i := 6) (N := some 41) (v := ?_) (a' := ?_) #[true, true, true, true, true, true, true, false, false, false, false, false, false] rfl rfl (by kernel_rfl) (fun _ _ _ h => h) (Or.inl ⟨by rfl, ?_⟩) ?_ ?_
        rotate_left
        · intro w'
          go_simp
          with_reducible rfl
        rotate_left
        · simp only [Act.put, List.setIfInBounds_toArray, List.set_cons_zero, List.set_cons_succ]
          rfl
        refine pure_ (i := 7) (N := some 42) (v := ?_) (a' := ?_) #[true, true, true, true, true, true, true, true, false, false, false, false, false] rfl rfl (by kernel_rfl) (fun _ _ _ h => h) (Or.inl ⟨by rfl, ?_⟩) ?_ ?_
        rotate_left
        · intro w'
          go_simp
          with_reducible rfl
        rotate_left
        · simp only [Act.put, List.setIfInBounds_toArray, List.set_cons_zero, List.set_cons_succ]
          rfl
        refine take_ (i := 8) (N := some 43) (v := ?_) (a' := ?_) #[true, true, true, true, true, true, true, true, true, false, false, false, false] rfl rfl (by kernel_rfl) (fun _ _ _ h => h) (Or.inl ⟨by rfl, ?_⟩) hHeld ?_ ?_
        rotate_left
        · rintro w' ⟨s0, s1⟩
          go_simp
          with_reducible rfl
        rotate_left
        · simp only [Act.put, List.setIfInBounds_toArray, List.set_cons_zero, List.set_cons_succ]
          rfl
        refine one_ (i := 9) (N := some 44) #[true, true, true, true, true, true, true, true, true, true, false, false, false] rfl rfl (by kernel_rfl) (by decide) (fun K hK => ?_)
        refine goes_ Try.func54 (by kernel_rfl) rfl #[.slice Ax x.f4.length cx] (by rfl) rfl rfl (by (try simp only [List.map_toArray, List.map_cons, List.map_nil]); rfl) ?_
        refine (api_Op.calls Ax cx x.f4 x.f4 _ (Kd.C_below gx.out BI.out) lx.out fitx.out).mono ?_
        rintro e WJ ⟨vx, rfl, ho, hb⟩
        refine ⟨_, rfl, ?_⟩
        have VX := Aside0.mk ho
        have HJ := Aside0.mk (HI.out.below hb)
        have BXJ := Aside0.mk (BXI.out.kept (hb.block _ (blk_lt BXI.out.1)))
        have GJ : Aside0 (W14.grownBy WJ (some g)) := ⟨grown_trans GI.out ⟨hb.os, hb.tape, hb.output, hb.size, fun i hi _ => hb.block i hi⟩⟩
        have BJ := Aside0.mk (below_then BI.out BI.out.size hb)
        have ZJ := Aside0.mk hb
        have qdJ : WJ.cell? ⟨g, kk * 5 + 4, none⟩ = some (.slice Ax x.f4.length cx) := ((HJ.out.read HX.out).2 4 (by decide)).trans (by show (seg 5 inner kk)[4]? = _; rw [HSEG.out]; rfl)
        clear ho hb
        refine hK.out _ _ ⟨BXJ.out.cell rfl, qdJ⟩ (fun hHeld => ?_)
        clear hK K
        refine norm_ (a' := ?_) ?_ ?_
        rotate_left
        · show Act.put _ (some 44) _ = _
          simp only [Act.put, List.setIfInBounds_toArray, List.set_cons_zero, List.set_cons_succ]
          rfl
        refine pure_ (i := 10) (N := some 45) (v := ?_) (a' := ?_) #[true, true, true, true, true, true, true, true, true, true, true, false, false] rfl rfl (by kernel_rfl) (fun _ _ _ h => h) (Or.inl ⟨by rfl, ?_⟩) ?_ ?_
        rotate_left
        · intro w'
          go_simp
          with_reducible rfl
        rotate_left
        · simp only [Act.put, List.setIfInBounds_toArray, List.set_cons_zero, List.set_cons_succ]
          rfl
        refine pure_ (i := 11) (N := some 46) (v := ?_) (a' := ?_) #[true, true, true, true, true, true, true, true, true, true, true, true, false] rfl rfl (by kernel_rfl) (fun _ _ _ h => h) (Or.inl ⟨by rfl, ?_⟩) ?_ ?_
        rotate_left
        · intro w'
          go_simp
          with_reducible rfl
        rotate_left
        · simp only [Act.put, List.setIfInBounds_toArray, List.set_cons_zero, List.set_cons_succ]
          rfl
        obtain ⟨Avx, cvx, evx⟩ := Kd.R_slice VX.out
        subst evx
        refine last_ (i := 12) (N := none) #[true, true, true, true, true, true, true, true, true, true, true, true, true] rfl rfl (by kernel_rfl) (by decide) (fun K hK => ?_)
        have hs := qdJ
        have hf := HJ.out.frozen (kk * 5 + 4)
        refine skip_ (w1 := ?_) (by rfl) rfl ?_ ?_
        rotate_left
        · go_simp
          rfl
        refine hK.out _ _ ?_
        clear hK K
        refine done_ (by kernel_rfl) ?_
        obtain ⟨WX, hWX⟩ : ∃ WX, WJ.setCell ⟨g, kk * 5 + 4, none⟩ (.slice Avx x.f4.length cvx) = WX := ⟨_, rfl⟩
        have zJ := ZJ.out.size
        have bI := BI.out.size
        have MX : k45.M WX w.heap.size (fun k => (fun _ => True) k ∧ WI.heap.size ≤ k) x ((seg 5 inner kk).set 4 (.slice Avx x.f4.length cvx)) := by
          rw [HSEG.out]
          exact k45_mkM _ _ _ x (Kd.R_mono (Kd.R_step (Kd.R_lower (Kd.R_bound VX.out) bI) (fun k hk _ => by rw [← hWX]; exact Below.heap_setCell _ _ _ _ (by have := hk.2.1; show k ≠ g; omega))) (fun k hk => ⟨trivial, hk.2.1⟩))
        have HN : Aside0 (Half k45 45 w WX w.heap.size (fun _ => True) (fun k => if k < WI.heap.size then f k else kk) (.slice (some ⟨g, 0, none⟩) l0_2.length cv2) l0_2 (kk + 1) (inner.set (kk * 5 + 4) (.slice Avx x.f4.length cvx))) := ⟨by rw [← hWX] at MX ⊢; exact HI.out.round ZJ.out HX.out (i := 4) (by decide) _ MX⟩
        have GX : Aside0 (W14.grownBy WX (some g)) := ⟨by rw [← hWX]; exact grown_trans GJ.out (grown_set _)⟩
        have BX' : Aside0 (Below w.heap.size w WX) := ⟨by rw [← hWX]; exact BJ.out.setCell (p := ⟨g, kk * 5 + 4, none⟩) hgb _⟩
        rw [hWX]
        clear hWX MX hs hf qdJ
        go_wp2
        go_roundg (l0_2.length - (kk + 1))
        case measure => omega
        case rel => exact ⟨kk + 1, _, _, by omega, by omega, by go_num, HN, GX, BX'⟩
      · have hltz : ¬ (kk : Int) < (l0_2.length : Int) := by omega
        obtain rfl : kk = l0_2.length := by omega
        have SS2 := Aside0.mk HF.out.done
        have hty2 := own_typed HF.out.1
        obtain ⟨W20, hW20⟩ : ∃ W20, W20 = wr := ⟨_, rfl⟩
        rw [← hW20] at SS2 GR BW hty2
        have hty2' : ∀ k, (Value.slice Av2 l0_2.length cv2).ownBlock = some k → ∃ cells, W14.heap[k]? = some (.cells cells 45 (0, 0)) := fun k hk => own_typed Q2.out.1 k hk
        have R0 : Aside0 (Kd.R (Kd.int .u32) 31 W20 w.heap.size (fun k => w.heap.size + 2 ≤ k ∧ k < W2.heap.size) (.slice Av0 l0_0.length cv0) l0_0) := ⟨Kd.R_over' U0.out hty2' (by decide) GR.out⟩
        have R1 : Aside0 (Kd.R (Kd.int .u8) 5 W20 w.heap.size (fun k => w.heap.size + 2 ≤ k ∧ k < W3.heap.size) (.slice Av1 l0_1.length cv1) l0_1) := ⟨Kd.R_over' U1.out hty2' (by decide) GR.out⟩
        have R3 : Aside0 (Kd.R (Kd.int .i64) 3 W20 w.heap.size (fun k => w.heap.size + 2 ≤ k) (.slice Av3 l0_3.length cv3) l0_3) := ⟨Kd.R_over' U3.out hty2' (by decide) GR.out⟩
        have R5 : Aside0 (Kd.R k92 92 W20 w.heap.size (fun k => W10.heap.size ≤ k) (.slice Av5 l0_5.length cv5) l0_5) := ⟨Kd.R_over' U5.out hty2' (by decide) GR.out⟩
        have Q27 : Aside0 (W20.ownsRow w.heap.size 80 4 (.slice Av7 l0_7.length cv7) l0_7.length inner7) := ⟨own_move Q7.out (fun k hk => GR.out.block k (own_lt Q7.out k hk) (by intro e; obtain ⟨c1, h1⟩ := hty2' k e.symm; obtain ⟨c2, h2⟩ := own_typed Q7.out k hk; rw [h1] at h2; injection h2 with h2; injection h2 with _ h2 _; cases h2))⟩
        have hn2 : ∀ (k t : Nat) (cells : Array Value), W14.heap[k]? = some (Obj.cells cells t (0, 0)) → t ≠ 45 → W20.heap[k]? = W14.heap[k]? := fun k t cells hk ht => GR.out.block k (blk_lt hk) (own_ne Q2.out.1 hk (Ne.symm ht))
        have BX20 : Aside0 (RowAt W20 w.heap.size 35 10 1 1 [.slice Av0 l0_0.length cv0, .slice Av1 l0_1.length cv1, .slice Av2 l0_2.length cv2, .slice Av3 l0_3.length cv3, .int .u32 a0_4, .slice Av5 l0_5.length cv5, .int .i64 a0_6, .slice Av7 l0_7.length cv7, .int .i64 a0_8, .string a0_9]) := ⟨BX14.out.kept (hn2 _ _ _ BX14.out.1 (by decide))⟩
        have BR20 : Aside0 (RowAt W20 (w.heap.size + 1) 35 10 1 1 [.slice none 0 0, .slice none 0 0, .slice none 0 0, .slice none 0 0, .int .u32 0, .slice none 0 0, .int .i64 0, .slice none 0 0, .int .i64 0, .string ⟨#[]⟩]) := ⟨BR14.out.kept (hn2 _ _ _ BR14.out.1 (by decide))⟩
        have B20 : Aside0 (Below w.heap.size w W20) := BW
        have z20 := GR.out.size
        have LT0' : ∀ k, (Value.slice Av7 l0_7.length cv7).ownBlock = some k → some k ≠ (Value.slice Av0 l0_0.length cv0).ownBlock := fun k hk e => by have h1 := LT0.out k e.symm; have h2 := (LO7.out k hk).1; have h3 := SZ.out; omega
        have Q37 : Aside0 (Half k80 80 w W20 w.heap.size (fun k => some k ≠ (Value.slice Av0 l0_0.length cv0).ownBlock) (fun _ => 0) (.slice Av7 l0_7.length cv7) l0_7 0 inner7) := ⟨Half.start _ Q27.out P7.out LT0'⟩
        have LT0q := Aside0.mk LT0'
        have SZ2 : Aside0 (w.heap.size + 2 ≤ W2.heap.size ∧ W2.heap.size ≤ W3.heap.size ∧ W3.heap.size ≤ W8.heap.size ∧ W8.heap.size ≤ W9.heap.size ∧ W9.heap.size ≤ W10.heap.size ∧ W10.heap.size ≤ W20.heap.size) := ⟨by have := SZ.out; omega⟩
        have q7 := BX20.out.cell (show ([.slice Av0 l0_0.length cv0, .slice Av1 l0_1.length cv1, .slice Av2 l0_2.length cv2, .slice Av3 l0_3.length cv3, .int .u32 a0_4, .slice Av5 l0_5.length cv5, .int .i64 a0_6, .slice Av7 l0_7.length cv7, .int .i64 a0_8, .string a0_9] : List Value)[7]? = some (.slice Av7 l0_7.length cv7) from rfl)
        rw [← hW20]
        clear hW20 HF GR BW hty2 hty2' hn2 LT0' z20 Q2 Q7 Q27 P7 U0 U1 U3 U5 BX14 BR14 B14 SZ
        go_wp2
        clear q7
        go_loopg [4, 51] l0_7.length (fun gg _ sc wr => ∃ (kk : Nat) (f : Nat → Nat) (inner : List Value), kk ≤ l0_7.length ∧ l0_7.length - kk ≤ gg ∧ sc = .int .i64 kk ∧ Aside0 (Half k80 80 w wr w.heap.size (fun k => some k ≠ (Value.slice Av0 l0_0.length cv0).ownBlock) f (.slice Av7 l0_7.length cv7) l0_7 kk inner) ∧ Aside0 (W20.grownBy wr (.slice Av7 l0_7.length cv7 : Value).ownBlock) ∧ Aside0 (Below w.heap.size w wr))
        case atStart => exact ⟨0, _, inner7, Nat.zero_le _, by omega, rfl, Q37, ⟨⟨rfl, rfl, rfl, Nat.le_refl _, fun _ _ _ => rfl⟩⟩, B20⟩
        case round =>
          obtain ⟨kk, f, inner, hkk, hgg, rfl, HF, GR, BW⟩ := hrel
          by_cases hlt : kk < l0_7.length
          · have hltz : (kk : Int) < (l0_7.length : Int) := by omega
            have hk0 : (0 : Int) ≤ (kk : Int) := by omega
            obtain ⟨x, hx⟩ : ∃ x, l0_7[kk]? = some x := ⟨_, List.getElem?_eq_getElem hlt⟩
            have hxf := fit7a.out x (List.mem_of_getElem? hx)
            unfold cellsFits at hxf
            simp only [decide_eq_true_eq] at hxf
            have fitx : Aside0 (slices_Clone_uint32_uint32.f x.f3 = some x.f3) := ⟨if_pos hxf⟩
            obtain ⟨g, cap, hgv, hgb, hgl⟩ := HF.out.form hx
            injection hgv with e1 _ e3
            subst e1
            subst e3
            obtain ⟨hK, hcells⟩ := HF.out.read hx
            obtain ⟨Ax, cx, hseg, lx, gx⟩ := k80_open hK
            replace hseg : seg 4 inner kk = _ := hseg
            have qd : wr.cell? ⟨g, kk * 4 + 3, none⟩ = some (.slice Ax x.f3.length cx) := (hcells 3 (by decide)).trans (by show (seg 4 inner kk)[3]? = _; rw [hseg]; rfl)
            have hnb : some w.heap.size ≠ (Value.slice (some ⟨g, 0, none⟩) l0_7.length cv7).ownBlock := by have := (LO7.out g rfl).1; have := SZ2.out; simp [Value.ownBlock]; omega
            have BXr : Aside0 (RowAt wr w.heap.size 35 10 1 1 [.slice Av0 l0_0.length cv0, .slice Av1 l0_1.length cv1, .slice Av2 l0_2.length cv2, .slice Av3 l0_3.length cv3, .int .u32 a0_4, .slice Av5 l0_5.length cv5, .int .i64 a0_6, .slice (some ⟨g, 0, none⟩) l0_7.length cv7, .int .i64 a0_8, .string a0_9]) := ⟨BX20.out.kept (GR.out.block _ (blk_lt BX20.out.1) hnb)⟩
            have q2 := BXr.out.cell (show ([.slice Av0 l0_0.length cv0, .slice Av1 l0_1.length cv1, .slice Av2 l0_2.length cv2, .slice Av3 l0_3.length cv3, .int .u32 a0_4, .slice Av5 l0_5.length cv5, .int .i64 a0_6, .slice (some ⟨g, 0, none⟩) l0_7.length cv7, .int .i64 a0_8, .string a0_9] : List Value)[7]? = some (.slice (some ⟨g, 0, none⟩) l0_7.length cv7) from rfl)
            have HX := Aside0.mk hx
            have HSEG := Aside0.mk hseg
            replace lx := Aside0.mk lx
            replace gx := Aside0.mk gx
            have p0 := eq_true hk0
            have p1 := eq_true hltz
            clear hx hxf hK hcells hseg hnb
            go_wp2
            refine start_ (n := 13) (S := fun w' => w'.cell? ⟨w.heap.size, 7, none⟩ = some (.slice (some ⟨g, 0, none⟩) l0_7.length cv7) ∧ w'.cell? ⟨g, kk * 4 + 3, none⟩ = some (.slice Ax x.f3.length cx)) (ds := [12]) #[false, false, false, false, false, false, false, false, false, false, false, false, false] (by kernel_rfl) rfl rfl ⟨q2, qd⟩ (fun hHeld => ?_)
            obtain ⟨WI, hWI⟩ : ∃ WI, wr.drew = WI := ⟨_, rfl⟩
            have HI : Aside0 (Half k80 80 w WI w.heap.size (fun k => some k ≠ (Value.slice Av0 l0_0.length cv0).ownBlock) f (.slice (some ⟨g, 0, none⟩) l0_7.length cv7) l0_7 kk inner) := ⟨by rw [← hWI]; exact HF.out.move (fun _ _ _ => rfl)⟩
            have GI : Aside0 (W20.grownBy WI (some g)) := ⟨by rw [← hWI]; exact ⟨GR.out.os, GR.out.tape, GR.out.output, GR.out.size, GR.out.block⟩⟩
            have BI : Aside0 (Below w.heap.size w WI) := ⟨by rw [← hWI]; exact below_drew BW.out⟩
            have BXI : Aside0 (RowAt WI w.heap.size 35 10 1 1 [.slice Av0 l0_0.length cv0, .slice Av1 l0_1.length cv1, .slice Av2 l0_2.length cv2, .slice Av3 l0_3.length cv3, .int .u32 a0_4, .slice Av5 l0_5.length cv5, .int .i64 a0_6, .slice (some ⟨g, 0, none⟩) l0_7.length cv7, .int .i64 a0_8, .string a0_9]) := ⟨by rw [← hWI]; exact BXr.out⟩
            have hgl2 : g < WI.heap.size := by rw [← hWI]; exact hgl
            rw [hWI] at hHeld ⊢
            clear hWI HF GR BW BXr q2 qd
            refine pure_ (i := 0) (N := some 54) (v := ?_) (a' := ?_) #[true, false, false, false, false, false, false, false, false, false, false, false, false] rfl rfl (by kernel_rfl) (fun _ _ _ h => h) (Or.inl ⟨by rfl, ?_⟩) ?_ ?_
            rotate_left
            · intro w'
              go_simp
              with_reducible rfl
            rotate_left
            · simp only [Act.put, List.setIfInBounds_toArray, List.set_cons_zero, List.set_cons_succ]
              rfl
            refine pure_ (i := 2) (N := some 56) (v := ?_) (a' := ?_) #[true, false, true, false, false, false, false, false, false, false, false, false, false] rfl rfl (by kernel_rfl) (fun _ _ _ h => h) (Or.inl ⟨by rfl, ?_⟩) ?_ ?_
            rotate_left
            · intro w'
              go_simp
              with_reducible rfl
            rotate_left
            · simp only [Act.put, List.setIfInBounds_toArray, List.set_cons_zero, List.set_cons_succ]
              rfl
            refine pure_ (i := 3) (N := some 57) (v := ?_) (a' := ?_) #[true, false, true, true, false, false, false, false, false, false, false, false, false] rfl rfl (by kernel_rfl) (fun _ _ _ h => h) (Or.inl ⟨by rfl, ?_⟩) ?_ ?_
            rotate_left
            · intro w'
              go_simp
              with_reducible rfl
            rotate_left
            · simp only [Act.put, List.setIfInBounds_toArray, List.set_cons_zero, List.set_cons_succ]
              rfl
            refine pure_ (i := 5) (N := some 59) (v := ?_) (a' := ?_) #[true, false, true, true, false, true, false, false, false, false, false, false, false] rfl rfl (by kernel_rfl) (fun _ _ _ h => h) (Or.inl ⟨by rfl, ?_⟩) ?_ ?_
            rotate_left
            · intro w'
              go_simp
              with_reducible rfl
            rotate_left
            · simp only [Act.put, List.setIfInBounds_toArray, List.set_cons_zero, List.set_cons_succ]
              rfl
            refine take_ (i := 1) (N := some 55) (v := ?_) (a' := ?_) #[true, true, true, true, false, true, false, false, false, false, false, false, false] rfl rfl (by kernel_rfl) (fun _ _ _ h => h) (Or.inl ⟨by rfl, ?_⟩) hHeld ?_ ?_
            rotate_left
            · rintro w' ⟨s0, s1⟩
              go_simp
              with_reducible rfl
            rotate_left
            · simp only [Act.put, List.setIfInBounds_toArray, List.set_cons_zero, List.set_cons_succ]
              rfl
            refine take_ (i := 4) (N := some 58) (v := ?_) (a' := ?_) #[true, true, true, true, true, true, false, false, false, false, false, false, false] rfl rfl (by kernel_rfl) (fun _ _ _ h => h) (Or.inl ⟨by rfl, ?_⟩) hHeld ?_ ?_
            rotate_left
            · rintro w' ⟨s0, s1⟩
              go_simp
              with_reducible rfl
            rotate_left
            · simp only [Act.put, List.setIfInBounds_toArray, List.set_cons_zero, List.set_cons_succ]
              rfl
            refine pure_ (i := 6) (N := some 60) (v := ?_) (a' := ?_) #[true, true, true, true, true, true, true, false, false, false, false, false, false] rfl rfl (by kernel_rfl) (fun _ _ _ h => h) (Or.inl ⟨by rfl, ?_⟩) ?_ ?_
            rotate_left
            · intro w'
              go_simp
              with_reducible rfl
            rotate_left
            · simp only [Act.put, List.setIfInBounds_toArray, List.set_cons_zero, List.set_cons_succ]
              rfl
            refine pure_ (i := 7) (N := some 61) (v := ?_) (a' := ?_) #[true, true, true, true, true, true, true, true, false, false, false, false, false] rfl rfl (by kernel_rfl) (fun _ _ _ h => h) (Or.inl ⟨by rfl, ?_⟩) ?_ ?_
            rotate_left
            · intro w'
              go_simp
              with_reducible rfl
            rotate_left
            · simp only [Act.put, List.setIfInBounds_toArray, List.set_cons_zero, List.set_cons_succ]
              rfl
            refine take_ (i := 8) (N := some 62) (v := ?_) (a' := ?_) #[true, true, true, true, true, true, true, true, true, false, false, false, false] rfl rfl (by kernel_rfl) (fun _ _ _ h => h) (Or.inl ⟨by rfl, ?_⟩) hHeld ?_ ?_
            rotate_left
            · rintro w' ⟨s0, s1⟩
              go_simp
              with_reducible rfl
            rotate_left
            · simp only [Act.put, List.setIfInBounds_toArray, List.set_cons_zero, List.set_cons_succ]
              rfl
            refine one_ (i := 9) (N := some 63) #[true, true, true, true, true, true, true, true, true, true, false, false, false] rfl rfl (by kernel_rfl) (by decide) (fun K hK => ?_)
            refine goes_ Try.func48 (by kernel_rfl) rfl #[.slice Ax x.f3.length cx] (by rfl) rfl rfl (by (try simp only [List.map_toArray, List.map_cons, List.map_nil]); rfl) ?_
            refine (slices_Clone_uint32_uint32.calls Ax cx x.f3 x.f3 _ (Kd.C_below gx.out BI.out) lx.out fitx.out).mono ?_
            rintro e WJ ⟨vx, rfl, ho, hb⟩
            refine ⟨_, rfl, ?_⟩
            have VX := Aside0.mk ho
            have HJ := Aside0.mk (HI.out.below hb)
            have BXJ := Aside0.mk (BXI.out.kept (hb.block _ (blk_lt BXI.out.1)))
            have GJ : Aside0 (W20.grownBy WJ (some g)) := ⟨grown_trans GI.out ⟨hb.os, hb.tape, hb.output, hb.size, fun i hi _ => hb.block i hi⟩⟩
            have BJ := Aside0.mk (below_then BI.out BI.out.size hb)
            have ZJ := Aside0.mk hb
            have qdJ : WJ.cell? ⟨g, kk * 4 + 3, none⟩ = some (.slice Ax x.f3.length cx) := ((HJ.out.read HX.out).2 3 (by decide)).trans (by show (seg 4 inner kk)[3]? = _; rw [HSEG.out]; rfl)
            clear ho hb
            refine hK.out _ _ ⟨BXJ.out.cell rfl, qdJ⟩ (fun hHeld => ?_)
            clear hK K
            refine norm_ (a' := ?_) ?_ ?_
            rotate_left
            · show Act.put _ (some 63) _ = _
              simp only [Act.put, List.setIfInBounds_toArray, List.set_cons_zero, List.set_cons_succ]
              rfl
            refine pure_ (i := 10) (N := some 64) (v := ?_) (a' := ?_) #[true, true, true, true, true, true, true, true, true, true, true, false, false] rfl rfl (by kernel_rfl) (fun _ _ _ h => h) (Or.inl ⟨by rfl, ?_⟩) ?_ ?_
            rotate_left
            · intro w'
              go_simp
              with_reducible rfl
            rotate_left
            · simp only [Act.put, List.setIfInBounds_toArray, List.set_cons_zero, List.set_cons_succ]
              rfl
            refine pure_ (i := 11) (N := some 65) (v := ?_) (a' := ?_) #[true, true, true, true, true, true, true, true, true, true, true, true, false] rfl rfl (by kernel_rfl) (fun _ _ _ h => h) (Or.inl ⟨by rfl, ?_⟩) ?_ ?_
            rotate_left
            · intro w'
              go_simp
              with_reducible rfl
            rotate_left
            · simp only [Act.put, List.setIfInBounds_toArray, List.set_cons_zero, List.set_cons_succ]
              rfl
            obtain ⟨Avx, cvx, evx⟩ := Kd.R_slice VX.out
            subst evx
            refine last_ (i := 12) (N := none) #[true, true, true, true, true, true, true, true, true, true, true, true, true] rfl rfl (by kernel_rfl) (by decide) (fun K hK => ?_)
            have hs := qdJ
            have hf := HJ.out.frozen (kk * 4 + 3)
            refine skip_ (w1 := ?_) (by rfl) rfl ?_ ?_
            rotate_left
            · go_simp
              rfl
            refine hK.out _ _ ?_
            clear hK K
            refine done_ (by kernel_rfl) ?_
            obtain ⟨WX, hWX⟩ : ∃ WX, WJ.setCell ⟨g, kk * 4 + 3, none⟩ (.slice Avx x.f3.length cvx) = WX := ⟨_, rfl⟩
            have zJ := ZJ.out.size
            have zJ2 : W20.heap.size ≤ WI.heap.size := GI.out.size
            have bI := BI.out.size
            have MX : k80.M WX w.heap.size (fun k => (fun k => some k ≠ (Value.slice Av0 l0_0.length cv0).ownBlock) k ∧ WI.heap.size ≤ k) x ((seg 4 inner kk).set 3 (.slice Avx x.f3.length cvx)) := by
              rw [HSEG.out]
              exact k80_mkM _ _ _ x (Kd.R_mono (Kd.R_step (Kd.R_lower (Kd.R_bound VX.out) bI) (fun k hk _ => by rw [← hWX]; exact Below.heap_setCell _ _ _ _ (by have := hk.2.1; show k ≠ g; omega))) (fun k hk => ⟨by intro e; have h1 := LT0.out k e.symm; have h2 := hk.2.1; have h3 := SZ2.out; have h4 := BI.out.size; have h5 := zJ2; omega, hk.2.1⟩))
            have HN : Aside0 (Half k80 80 w WX w.heap.size (fun k => some k ≠ (Value.slice Av0 l0_0.length cv0).ownBlock) (fun k => if k < WI.heap.size then f k else kk) (.slice (some ⟨g, 0, none⟩) l0_7.length cv7) l0_7 (kk + 1) (inner.set (kk * 4 + 3) (.slice Avx x.f3.length cvx))) := ⟨by rw [← hWX] at MX ⊢; exact HI.out.round ZJ.out HX.out (i := 3) (by decide) _ MX⟩
            have GX : Aside0 (W20.grownBy WX (some g)) := ⟨by rw [← hWX]; exact grown_trans GJ.out (grown_set _)⟩
            have BX' : Aside0 (Below w.heap.size w WX) := ⟨by rw [← hWX]; exact BJ.out.setCell (p := ⟨g, kk * 4 + 3, none⟩) hgb _⟩
            rw [hWX]
            clear hWX MX hs hf qdJ
            go_wp2
            go_roundg (l0_7.length - (kk + 1))
            case measure => omega
            case rel => exact ⟨kk + 1, _, _, by omega, by omega, by go_num, HN, GX, BX'⟩
          · have hltz : ¬ (kk : Int) < (l0_7.length : Int) := by omega
            obtain rfl : kk = l0_7.length := by omega
            have SS7 := Aside0.mk HF.out.done
            have hty7 := own_typed HF.out.1
            obtain ⟨W30, hW30⟩ : ∃ W30, W30 = wr := ⟨_, rfl⟩
            rw [← hW30] at SS7 GR BW hty7
            have hty7' : ∀ k, (Value.slice Av7 l0_7.length cv7).ownBlock = some k → ∃ cells, W20.heap[k]? = some (.cells cells 80 (0, 0)) := fun k hk => own_typed Q37.out.1 k hk
            have F0 : Aside0 (Kd.R (Kd.int .u32) 31 W30 w.heap.size (fun k => w.heap.size + 2 ≤ k ∧ k < W2.heap.size) (.slice Av0 l0_0.length cv0) l0_0) := ⟨Kd.R_over' R0.out hty7' (by decide) GR.out⟩
            have F1 : Aside0 (Kd.R (Kd.int .u8) 5 W30 w.heap.size (fun k => w.heap.size + 2 ≤ k ∧ k < W3.heap.size) (.slice Av1 l0_1.length cv1) l0_1) := ⟨Kd.R_over' R1.out hty7' (by decide) GR.out⟩
            have F3 : Aside0 (Kd.R (Kd.int .i64) 3 W30 w.heap.size (fun k => w.heap.size + 2 ≤ k) (.slice Av3 l0_3.length cv3) l0_3) := ⟨Kd.R_over' R3.out hty7' (by decide) GR.out⟩
            have F5 : Aside0 (Kd.R k92 92 W30 w.heap.size (fun k => W10.heap.size ≤ k) (.slice Av5 l0_5.length cv5) l0_5) := ⟨Kd.R_over' R5.out hty7' (by decide) GR.out⟩
            have F2 : Aside0 (Kd.S k45 45 W30 w.heap.size (fun _ => True) (.slice Av2 l0_2.length cv2) l0_2) := ⟨Kd.S_over' SS2.out hty7' (by decide) GR.out⟩
            have hn7 : ∀ (k t : Nat) (cells : Array Value), W20.heap[k]? = some (Obj.cells cells t (0, 0)) → t ≠ 80 → W30.heap[k]? = W20.heap[k]? := fun k t cells hk ht => GR.out.block k (blk_lt hk) (own_ne Q37.out.1 hk (Ne.symm ht))
            have BX30 : RowAt W30 w.heap.size 35 10 1 1 [.slice Av0 l0_0.length cv0, .slice Av1 l0_1.length cv1, .slice Av2 l0_2.length cv2, .slice Av3 l0_3.length cv3, .int .u32 a0_4, .slice Av5 l0_5.length cv5, .int .i64 a0_6, .slice Av7 l0_7.length cv7, .int .i64 a0_8, .string a0_9] := BX20.out.kept (hn7 _ _ _ BX20.out.1 (by decide))
            have BR30 : RowAt W30 (w.heap.size + 1) 35 10 1 1 [.slice none 0 0, .slice none 0 0, .slice none 0 0, .slice none 0 0, .int .u32 0, .slice none 0 0, .int .i64 0, .slice none 0 0, .int .i64 0, .string ⟨#[]⟩] := BR20.out.kept (hn7 _ _ _ BR20.out.1 (by decide))
            have B30 : Aside0 (Below w.heap.size w W30) := BW
            have u0 := BX30.cell (show ([.slice Av0 l0_0.length cv0, .slice Av1 l0_1.length cv1, .slice Av2 l0_2.length cv2, .slice Av3 l0_3.length cv3, .int .u32 a0_4, .slice Av5 l0_5.length cv5, .int .i64 a0_6, .slice Av7 l0_7.length cv7, .int .i64 a0_8, .string a0_9] : List Value)[0]? = some (.slice Av0 l0_0.length cv0) from rfl)
            have u1 := BX30.cell (show ([.slice Av0 l0_0.length cv0, .slice Av1 l0_1.length cv1, .slice Av2 l0_2.length cv2, .slice Av3 l0_3.length cv3, .int .u32 a0_4, .slice Av5 l0_5.length cv5, .int .i64 a0_6, .slice Av7 l0_7.length cv7, .int .i64 a0_8, .string a0_9] : List Value)[1]? = some (.slice Av1 l0_1.length cv1) from rfl)
            have u2 := BX30.cell (show ([.slice Av0 l0_0.length cv0, .slice Av1 l0_1.length cv1, .slice Av2 l0_2.length cv2, .slice Av3 l0_3.length cv3, .int .u32 a0_4, .slice Av5 l0_5.length cv5, .int .i64 a0_6, .slice Av7 l0_7.length cv7, .int .i64 a0_8, .string a0_9] : List Value)[2]? = some (.slice Av2 l0_2.length cv2) from rfl)
            have u3 := BX30.cell (show ([.slice Av0 l0_0.length cv0, .slice Av1 l0_1.length cv1, .slice Av2 l0_2.length cv2, .slice Av3 l0_3.length cv3, .int .u32 a0_4, .slice Av5 l0_5.length cv5, .int .i64 a0_6, .slice Av7 l0_7.length cv7, .int .i64 a0_8, .string a0_9] : List Value)[3]? = some (.slice Av3 l0_3.length cv3) from rfl)
            have u4 := BX30.cell (show ([.slice Av0 l0_0.length cv0, .slice Av1 l0_1.length cv1, .slice Av2 l0_2.length cv2, .slice Av3 l0_3.length cv3, .int .u32 a0_4, .slice Av5 l0_5.length cv5, .int .i64 a0_6, .slice Av7 l0_7.length cv7, .int .i64 a0_8, .string a0_9] : List Value)[4]? = some (.int .u32 a0_4) from rfl)
            have u5 := BX30.cell (show ([.slice Av0 l0_0.length cv0, .slice Av1 l0_1.length cv1, .slice Av2 l0_2.length cv2, .slice Av3 l0_3.length cv3, .int .u32 a0_4, .slice Av5 l0_5.length cv5, .int .i64 a0_6, .slice Av7 l0_7.length cv7, .int .i64 a0_8, .string a0_9] : List Value)[5]? = some (.slice Av5 l0_5.length cv5) from rfl)
            have u6 := BX30.cell (show ([.slice Av0 l0_0.length cv0, .slice Av1 l0_1.length cv1, .slice Av2 l0_2.length cv2, .slice Av3 l0_3.length cv3, .int .u32 a0_4, .slice Av5 l0_5.length cv5, .int .i64 a0_6, .slice Av7 l0_7.length cv7, .int .i64 a0_8, .string a0_9] : List Value)[6]? = some (.int .i64 a0_6) from rfl)
            have u7 := BX30.cell (show ([.slice Av0 l0_0.length cv0, .slice Av1 l0_1.length cv1, .slice Av2 l0_2.length cv2, .slice Av3 l0_3.length cv3, .int .u32 a0_4, .slice Av5 l0_5.length cv5, .int .i64 a0_6, .slice Av7 l0_7.length cv7, .int .i64 a0_8, .string a0_9] : List Value)[7]? = some (.slice Av7 l0_7.length cv7) from rfl)
            have u8 := BX30.cell (show ([.slice Av0 l0_0.length cv0, .slice Av1 l0_1.length cv1, .slice Av2 l0_2.length cv2, .slice Av3 l0_3.length cv3, .int .u32 a0_4, .slice Av5 l0_5.length cv5, .int .i64 a0_6, .slice Av7 l0_7.length cv7, .int .i64 a0_8, .string a0_9] : List Value)[8]? = some (.int .i64 a0_8) from rfl)
            have u9 := BX30.cell (show ([.slice Av0 l0_0.length cv0, .slice Av1 l0_1.length cv1, .slice Av2 l0_2.length cv2, .slice Av3 l0_3.length cv3, .int .u32 a0_4, .slice Av5 l0_5.length cv5, .int .i64 a0_6, .slice Av7 l0_7.length cv7, .int .i64 a0_8, .string a0_9] : List Value)[9]? = some (.string a0_9) from rfl)
            have zz0 := BR30.cell (show ([.slice none 0 0, .slice none 0 0, .slice none 0 0, .slice none 0 0, .int .u32 0, .slice none 0 0, .int .i64 0, .slice none 0 0, .int .i64 0, .string ⟨#[]⟩] : List Value)[0]? = some (.slice none 0 0) from rfl)
            have ff0 := BR30.frozen 0
            have zz1 := BR30.cell (show ([.slice none 0 0, .slice none 0 0, .slice none 0 0, .slice none 0 0, .int .u32 0, .slice none 0 0, .int .i64 0, .slice none 0 0, .int .i64 0, .string ⟨#[]⟩] : List Value)[1]? = some (.slice none 0 0) from rfl)
            have ff1 := BR30.frozen 1
            have zz2 := BR30.cell (show ([.slice none 0 0, .slice none 0 0, .slice none 0 0, .slice none 0 0, .int .u32 0, .slice none 0 0, .int .i64 0, .slice none 0 0, .int .i64 0, .string ⟨#[]⟩] : List Value)[2]? = some (.slice none 0 0) from rfl)
            have ff2 := BR30.frozen 2
            have zz3 := BR30.cell (show ([.slice none 0 0, .slice none 0 0, .slice none 0 0, .slice none 0 0, .int .u32 0, .slice none 0 0, .int .i64 0, .slice none 0 0, .int .i64 0, .string ⟨#[]⟩] : List Value)[3]? = some (.slice none 0 0) from rfl)
            have ff3 := BR30.frozen 3
            have zz4 := BR30.cell (show ([.slice none 0 0, .slice none 0 0, .slice none 0 0, .slice none 0 0, .int .u32 0, .slice none 0 0, .int .i64 0, .slice none 0 0, .int .i64 0, .string ⟨#[]⟩] : List Value)[4]? = some (.int .u32 0) from rfl)
            have ff4 := BR30.frozen 4
            have zz5 := BR30.cell (show ([.slice none 0 0, .slice none 0 0, .slice none 0 0, .slice none 0 0, .int .u32 0, .slice none 0 0, .int .i64 0, .slice none 0 0, .int .i64 0, .string ⟨#[]⟩] : List Value)[5]? = some (.slice none 0 0) from rfl)
            have ff5 := BR30.frozen 5
            have zz6 := BR30.cell (show ([.slice none 0 0, .slice none 0 0, .slice none 0 0, .slice none 0 0, .int .u32 0, .slice none 0 0, .int .i64 0, .slice none 0 0, .int .i64 0, .string ⟨#[]⟩] : List Value)[6]? = some (.int .i64 0) from rfl)
            have ff6 := BR30.frozen 6
            have zz7 := BR30.cell (show ([.slice none 0 0, .slice none 0 0, .slice none 0 0, .slice none 0 0, .int .u32 0, .slice none 0 0, .int .i64 0, .slice none 0 0, .int .i64 0, .string ⟨#[]⟩] : List Value)[7]? = some (.slice none 0 0) from rfl)
            have ff7 := BR30.frozen 7
            have zz8 := BR30.cell (show ([.slice none 0 0, .slice none 0 0, .slice none 0 0, .slice none 0 0, .int .u32 0, .slice none 0 0, .int .i64 0, .slice none 0 0, .int .i64 0, .string ⟨#[]⟩] : List Value)[8]? = some (.int .i64 0) from rfl)
            have ff8 := BR30.frozen 8
            have zz9 := BR30.cell (show ([.slice none 0 0, .slice none 0 0, .slice none 0 0, .slice none 0 0, .int .u32 0, .slice none 0 0, .int .i64 0, .slice none 0 0, .int .i64 0, .string ⟨#[]⟩] : List Value)[9]? = some (.string ⟨#[]⟩) from rfl)
            have ff9 := BR30.frozen 9
            have BR := Aside0.mk BR30
            rw [← hW30]
            clear hW30 HF GR BW hty7 hty7' hn7 Q37 R0 R1 R3 R5 SS2 BX20 BR20 B20 BX30 BR30
            go_wp2
            obtain ⟨W31, hW31⟩ : ∃ W31, W30.setCell ⟨w.heap.size + 1, 0, none⟩ (.slice Av0 l0_0.length cv0) = W31 := ⟨_, rfl⟩
            have r31 : RowAt W31 (w.heap.size + 1) 35 10 1 1 [.slice Av0 l0_0.length cv0, .slice none 0 0, .slice none 0 0, .slice none 0 0, .int .u32 0, .slice none 0 0, .int .i64 0, .slice none 0 0, .int .i64 0, .string ⟨#[]⟩] := by rw [← hW31]; exact BR.out.set 0 _
            have f31 : ∀ k, k ≠ w.heap.size + 1 → W31.heap[k]? = W30.heap[k]? := fun k hk => by rw [← hW31]; exact (Below.heap_setCell _ _ _ _ hk)
            have b31 : Below w.heap.size w W31 := by rw [← hW31]; exact (B30.out).setCell (p := ⟨w.heap.size + 1, 0, none⟩) (Nat.le_succ _) _
            rw [hW31]
            clear hW31
            obtain ⟨W32, hW32⟩ : ∃ W32, W31.setCell ⟨w.heap.size + 1, 1, none⟩ (.slice Av1 l0_1.length cv1) = W32 := ⟨_, rfl⟩
            have r32 : RowAt W32 (w.heap.size + 1) 35 10 1 1 [.slice Av0 l0_0.length cv0, .slice Av1 l0_1.length cv1, .slice none 0 0, .slice none 0 0, .int .u32 0, .slice none 0 0, .int .i64 0, .slice none 0 0, .int .i64 0, .string ⟨#[]⟩] := by rw [← hW32]; exact r31.set 1 _
            have f32 : ∀ k, k ≠ w.heap.size + 1 → W32.heap[k]? = W30.heap[k]? := fun k hk => by rw [← hW32]; exact (Below.heap_setCell _ _ _ _ hk).trans (f31 k hk)
            have b32 : Below w.heap.size w W32 := by rw [← hW32]; exact (b31).setCell (p := ⟨w.heap.size + 1, 1, none⟩) (Nat.le_succ _) _
            rw [hW32]
            clear hW32 r31 f31 b31
            obtain ⟨W33, hW33⟩ : ∃ W33, W32.setCell ⟨w.heap.size + 1, 2, none⟩ (.slice Av2 l0_2.length cv2) = W33 := ⟨_, rfl⟩
            have r33 : RowAt W33 (w.heap.size + 1) 35 10 1 1 [.slice Av0 l0_0.length cv0, .slice Av1 l0_1.length cv1, .slice Av2 l0_2.length cv2, .slice none 0 0, .int .u32 0, .slice none 0 0, .int .i64 0, .slice none 0 0, .int .i64 0, .string ⟨#[]⟩] := by rw [← hW33]; exact r32.set 2 _
            have f33 : ∀ k, k ≠ w.heap.size + 1 → W33.heap[k]? = W30.heap[k]? := fun k hk => by rw [← hW33]; exact (Below.heap_setCell _ _ _ _ hk).trans (f32 k hk)
            have b33 : Below w.heap.size w W33 := by rw [← hW33]; exact (b32).setCell (p := ⟨w.heap.size + 1, 2, none⟩) (Nat.le_succ _) _
            rw [hW33]
            clear hW33 r32 f32 b32
            obtain ⟨W34, hW34⟩ : ∃ W34, W33.setCell ⟨w.heap.size + 1, 3, none⟩ (.slice Av3 l0_3.length cv3) = W34 := ⟨_, rfl⟩
            have r34 : RowAt W34 (w.heap.size + 1) 35 10 1 1 [.slice Av0 l0_0.length cv0, .slice Av1 l0_1.length cv1, .slice Av2 l0_2.length cv2, .slice Av3 l0_3.length cv3, .int .u32 0, .slice none 0 0, .int .i64 0, .slice none 0 0, .int .i64 0, .string ⟨#[]⟩] := by rw [← hW34]; exact r33.set 3 _
            have f34 : ∀ k, k ≠ w.heap.size + 1 → W34.heap[k]? = W30.heap[k]? := fun k hk => by rw [← hW34]; exact (Below.heap_setCell _ _ _ _ hk).trans (f33 k hk)
            have b34 : Below w.heap.size w W34 := by rw [← hW34]; exact (b33).setCell (p := ⟨w.heap.size + 1, 3, none⟩) (Nat.le_succ _) _
            rw [hW34]
            clear hW34 r33 f33 b33
            obtain ⟨W35, hW35⟩ : ∃ W35, W34.setCell ⟨w.heap.size + 1, 4, none⟩ (.int .u32 a0_4) = W35 := ⟨_, rfl⟩
            have r35 : RowAt W35 (w.heap.size + 1) 35 10 1 1 [.slice Av0 l0_0.length cv0, .slice Av1 l0_1.length cv1, .slice Av2 l0_2.length cv2, .slice Av3 l0_3.length cv3, .int .u32 a0_4, .slice none 0 0, .int .i64 0, .slice none 0 0, .int .i64 0, .string ⟨#[]⟩] := by rw [← hW35]; exact r34.set 4 _
            have f35 : ∀ k, k ≠ w.heap.size + 1 → W35.heap[k]? = W30.heap[k]? := fun k hk => by rw [← hW35]; exact (Below.heap_setCell _ _ _ _ hk).trans (f34 k hk)
            have b35 : Below w.heap.size w W35 := by rw [← hW35]; exact (b34).setCell (p := ⟨w.heap.size + 1, 4, none⟩) (Nat.le_succ _) _
            rw [hW35]
            clear hW35 r34 f34 b34
            obtain ⟨W36, hW36⟩ : ∃ W36, W35.setCell ⟨w.heap.size + 1, 5, none⟩ (.slice Av5 l0_5.length cv5) = W36 := ⟨_, rfl⟩
            have r36 : RowAt W36 (w.heap.size + 1) 35 10 1 1 [.slice Av0 l0_0.length cv0, .slice Av1 l0_1.length cv1, .slice Av2 l0_2.length cv2, .slice Av3 l0_3.length cv3, .int .u32 a0_4, .slice Av5 l0_5.length cv5, .int .i64 0, .slice none 0 0, .int .i64 0, .string ⟨#[]⟩] := by rw [← hW36]; exact r35.set 5 _
            have f36 : ∀ k, k ≠ w.heap.size + 1 → W36.heap[k]? = W30.heap[k]? := fun k hk => by rw [← hW36]; exact (Below.heap_setCell _ _ _ _ hk).trans (f35 k hk)
            have b36 : Below w.heap.size w W36 := by rw [← hW36]; exact (b35).setCell (p := ⟨w.heap.size + 1, 5, none⟩) (Nat.le_succ _) _
            rw [hW36]
            clear hW36 r35 f35 b35
            obtain ⟨W37, hW37⟩ : ∃ W37, W36.setCell ⟨w.heap.size + 1, 6, none⟩ (.int .i64 a0_6) = W37 := ⟨_, rfl⟩
            have r37 : RowAt W37 (w.heap.size + 1) 35 10 1 1 [.slice Av0 l0_0.length cv0, .slice Av1 l0_1.length cv1, .slice Av2 l0_2.length cv2, .slice Av3 l0_3.length cv3, .int .u32 a0_4, .slice Av5 l0_5.length cv5, .int .i64 a0_6, .slice none 0 0, .int .i64 0, .string ⟨#[]⟩] := by rw [← hW37]; exact r36.set 6 _
            have f37 : ∀ k, k ≠ w.heap.size + 1 → W37.heap[k]? = W30.heap[k]? := fun k hk => by rw [← hW37]; exact (Below.heap_setCell _ _ _ _ hk).trans (f36 k hk)
            have b37 : Below w.heap.size w W37 := by rw [← hW37]; exact (b36).setCell (p := ⟨w.heap.size + 1, 6, none⟩) (Nat.le_succ _) _
            rw [hW37]
            clear hW37 r36 f36 b36
            obtain ⟨W38, hW38⟩ : ∃ W38, W37.setCell ⟨w.heap.size + 1, 7, none⟩ (.slice Av7 l0_7.length cv7) = W38 := ⟨_, rfl⟩
            have r38 : RowAt W38 (w.heap.size + 1) 35 10 1 1 [.slice Av0 l0_0.length cv0, .slice Av1 l0_1.length cv1, .slice Av2 l0_2.length cv2, .slice Av3 l0_3.length cv3, .int .u32 a0_4, .slice Av5 l0_5.length cv5, .int .i64 a0_6, .slice Av7 l0_7.length cv7, .int .i64 0, .string ⟨#[]⟩] := by rw [← hW38]; exact r37.set 7 _
            have f38 : ∀ k, k ≠ w.heap.size + 1 → W38.heap[k]? = W30.heap[k]? := fun k hk => by rw [← hW38]; exact (Below.heap_setCell _ _ _ _ hk).trans (f37 k hk)
            have b38 : Below w.heap.size w W38 := by rw [← hW38]; exact (b37).setCell (p := ⟨w.heap.size + 1, 7, none⟩) (Nat.le_succ _) _
            rw [hW38]
            clear hW38 r37 f37 b37
            obtain ⟨W39, hW39⟩ : ∃ W39, W38.setCell ⟨w.heap.size + 1, 8, none⟩ (.int .i64 a0_8) = W39 := ⟨_, rfl⟩
            have r39 : RowAt W39 (w.heap.size + 1) 35 10 1 1 [.slice Av0 l0_0.length cv0, .slice Av1 l0_1.length cv1, .slice Av2 l0_2.length cv2, .slice Av3 l0_3.length cv3, .int .u32 a0_4, .slice Av5 l0_5.length cv5, .int .i64 a0_6, .slice Av7 l0_7.length cv7, .int .i64 a0_8, .string ⟨#[]⟩] := by rw [← hW39]; exact r38.set 8 _
            have f39 : ∀ k, k ≠ w.heap.size + 1 → W39.heap[k]? = W30.heap[k]? := fun k hk => by rw [← hW39]; exact (Below.heap_setCell _ _ _ _ hk).trans (f38 k hk)
            have b39 : Below w.heap.size w W39 := by rw [← hW39]; exact (b38).setCell (p := ⟨w.heap.size + 1, 8, none⟩) (Nat.le_succ _) _
            rw [hW39]
            clear hW39 r38 f38 b38
            obtain ⟨W40, hW40⟩ : ∃ W40, W39.setCell ⟨w.heap.size + 1, 9, none⟩ (.string a0_9) = W40 := ⟨_, rfl⟩
            have r40 : RowAt W40 (w.heap.size + 1) 35 10 1 1 [.slice Av0 l0_0.length cv0, .slice Av1 l0_1.length cv1, .slice Av2 l0_2.length cv2, .slice Av3 l0_3.length cv3, .int .u32 a0_4, .slice Av5 l0_5.length cv5, .int .i64 a0_6, .slice Av7 l0_7.length cv7, .int .i64 a0_8, .string a0_9] := by rw [← hW40]; exact r39.set 9 _
            have f40 : ∀ k, k ≠ w.heap.size + 1 → W40.heap[k]? = W30.heap[k]? := fun k hk => by rw [← hW40]; exact (Below.heap_setCell _ _ _ _ hk).trans (f39 k hk)
            have b40 : Below w.heap.size w W40 := by rw [← hW40]; exact (b39).setCell (p := ⟨w.heap.size + 1, 9, none⟩) (Nat.le_succ _) _
            rw [hW40]
            clear hW40 r39 f39 b39
            have hfar := f40
            have hbel := b40
            clear u0 u1 u2 u3 u4 u5 u6 u7 u8 u9 zz0 zz1 zz2 zz3 zz4 zz5 zz6 zz7 zz8 zz9 ff0 ff1 ff2 ff3 ff4 ff5 ff6 ff7 ff8 ff9
            have d0 := r40.cell (show ([.slice Av0 l0_0.length cv0, .slice Av1 l0_1.length cv1, .slice Av2 l0_2.length cv2, .slice Av3 l0_3.length cv3, .int .u32 a0_4, .slice Av5 l0_5.length cv5, .int .i64 a0_6, .slice Av7 l0_7.length cv7, .int .i64 a0_8, .string a0_9] : List Value)[0]? = some (.slice Av0 l0_0.length cv0) from rfl)
            have d1 := r40.cell (show ([.slice Av0 l0_0.length cv0, .slice Av1 l0_1.length cv1, .slice Av2 l0_2.length cv2, .slice Av3 l0_3.length cv3, .int .u32 a0_4, .slice Av5 l0_5.length cv5, .int .i64 a0_6, .slice Av7 l0_7.length cv7, .int .i64 a0_8, .string a0_9] : List Value)[1]? = some (.slice Av1 l0_1.length cv1) from rfl)
            have d2 := r40.cell (show ([.slice Av0 l0_0.length cv0, .slice Av1 l0_1.length cv1, .slice Av2 l0_2.length cv2, .slice Av3 l0_3.length cv3, .int .u32 a0_4, .slice Av5 l0_5.length cv5, .int .i64 a0_6, .slice Av7 l0_7.length cv7, .int .i64 a0_8, .string a0_9] : List Value)[2]? = some (.slice Av2 l0_2.length cv2) from rfl)
            have d3 := r40.cell (show ([.slice Av0 l0_0.length cv0, .slice Av1 l0_1.length cv1, .slice Av2 l0_2.length cv2, .slice Av3 l0_3.length cv3, .int .u32 a0_4, .slice Av5 l0_5.length cv5, .int .i64 a0_6, .slice Av7 l0_7.length cv7, .int .i64 a0_8, .string a0_9] : List Value)[3]? = some (.slice Av3 l0_3.length cv3) from rfl)
            have d4 := r40.cell (show ([.slice Av0 l0_0.length cv0, .slice Av1 l0_1.length cv1, .slice Av2 l0_2.length cv2, .slice Av3 l0_3.length cv3, .int .u32 a0_4, .slice Av5 l0_5.length cv5, .int .i64 a0_6, .slice Av7 l0_7.length cv7, .int .i64 a0_8, .string a0_9] : List Value)[4]? = some (.int .u32 a0_4) from rfl)
            have d5 := r40.cell (show ([.slice Av0 l0_0.length cv0, .slice Av1 l0_1.length cv1, .slice Av2 l0_2.length cv2, .slice Av3 l0_3.length cv3, .int .u32 a0_4, .slice Av5 l0_5.length cv5, .int .i64 a0_6, .slice Av7 l0_7.length cv7, .int .i64 a0_8, .string a0_9] : List Value)[5]? = some (.slice Av5 l0_5.length cv5) from rfl)
            have d6 := r40.cell (show ([.slice Av0 l0_0.length cv0, .slice Av1 l0_1.length cv1, .slice Av2 l0_2.length cv2, .slice Av3 l0_3.length cv3, .int .u32 a0_4, .slice Av5 l0_5.length cv5, .int .i64 a0_6, .slice Av7 l0_7.length cv7, .int .i64 a0_8, .string a0_9] : List Value)[6]? = some (.int .i64 a0_6) from rfl)
            have d7 := r40.cell (show ([.slice Av0 l0_0.length cv0, .slice Av1 l0_1.length cv1, .slice Av2 l0_2.length cv2, .slice Av3 l0_3.length cv3, .int .u32 a0_4, .slice Av5 l0_5.length cv5, .int .i64 a0_6, .slice Av7 l0_7.length cv7, .int .i64 a0_8, .string a0_9] : List Value)[7]? = some (.slice Av7 l0_7.length cv7) from rfl)
            have d8 := r40.cell (show ([.slice Av0 l0_0.length cv0, .slice Av1 l0_1.length cv1, .slice Av2 l0_2.length cv2, .slice Av3 l0_3.length cv3, .int .u32 a0_4, .slice Av5 l0_5.length cv5, .int .i64 a0_6, .slice Av7 l0_7.length cv7, .int .i64 a0_8, .string a0_9] : List Value)[8]? = some (.int .i64 a0_8) from rfl)
            have d9 := r40.cell (show ([.slice Av0 l0_0.length cv0, .slice Av1 l0_1.length cv1, .slice Av2 l0_2.length cv2, .slice Av3 l0_3.length cv3, .int .u32 a0_4, .slice Av5 l0_5.length cv5, .int .i64 a0_6, .slice Av7 l0_7.length cv7, .int .i64 a0_8, .string a0_9] : List Value)[9]? = some (.string a0_9) from rfl)
            have X0 : Kd.R (Kd.int .u32) 31 W40 w.heap.size (fun _ => True) (.slice Av0 l0_0.length cv0) l0_0 := Kd.R_mono (Kd.R_step F0.out (fun k hk _ => hfar k (by have := hk.1; omega))) (fun _ _ => trivial)
            have X1 : Kd.R (Kd.int .u8) 5 W40 w.heap.size (fun _ => True) (.slice Av1 l0_1.length cv1) l0_1 := Kd.R_mono (Kd.R_step F1.out (fun k hk _ => hfar k (by have := hk.1; omega))) (fun _ _ => trivial)
            have X3 : Kd.R (Kd.int .i64) 3 W40 w.heap.size (fun _ => True) (.slice Av3 l0_3.length cv3) l0_3 := Kd.R_mono (Kd.R_step F3.out (fun k hk _ => hfar k (by omega))) (fun _ _ => trivial)
            have X5 : Kd.R k92 92 W40 w.heap.size (fun k_ => some k_ ≠ (Value.slice Av0 l0_0.length cv0).ownBlock ∧ some k_ ≠ (Value.slice Av1 l0_1.length cv1).ownBlock) (.slice Av5 l0_5.length cv5) l0_5 := Kd.R_mono (Kd.R_step F5.out (fun k hk _ => hfar k (by have := SZ2.out; omega))) (fun k hk => ⟨fun e => by have h1 := LT0.out k e.symm; have := SZ2.out; omega, fun e => by have h1 := LT1.out k e.symm; have := SZ2.out; omega⟩)
            have X2 : Kd.S k45 45 W40 w.heap.size (fun _ => True) (.slice Av2 l0_2.length cv2) l0_2 := Kd.S_mono (Kd.S_step (Kd.S_types F2.out BR.out.1 (by decide)) (fun k hk _ => hfar k hk.2)) (fun _ _ => trivial)
            have X7 : Kd.S k80 80 W40 w.heap.size (fun k_ => some k_ ≠ (Value.slice Av0 l0_0.length cv0).ownBlock) (.slice Av7 l0_7.length cv7) l0_7 := Kd.S_mono (Kd.S_step (Kd.S_types SS7.out BR.out.1 (by decide)) (fun k hk _ => hfar k hk.2)) (fun _ hk => hk.1)
            refine bodyPost_ret (v := .agg #[.slice Av0 l0_0.length cv0, .slice Av1 l0_1.length cv1, .slice Av2 l0_2.length cv2, .slice Av3 l0_3.length cv3, .int .u32 a0_4, .slice Av5 l0_5.length cv5, .int .i64 a0_6, .slice Av7 l0_7.length cv7, .int .i64 a0_8, .string a0_9]) (by simp [results, Try.f23, go_sem, d0, d1, d2, d3, d4, d5, d6, d7, d8, d9]) rfl ⟨_, _, _, _, _, _, rfl, X0, X1, X2, X3, X5, X7, hbel⟩
  · rw [if_neg hfit] at h
    cases h
end Go.Proofs.Ytpalbpakeokimaa.PK
