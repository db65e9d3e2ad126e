/- tinderlaw09.DictForms returns true for every input, and each argument reads afterwards as it read before. -/
import Derived.Test.YtpalbpakeokimaaRows
import Derived.Test.YtpalbpakeokimaaFPq
import Derived.Test.YtpalbpakeokimaaFGs2
import Derived.Test.YtpalbpakeokimaaFGz
import Derived.Test.YtpalbpakeokimaaFGal
import Derived.WalkKit
import Derived.ProofKit
import Derived.OpenShut
import Derived.ShutString
import Derived.ChangeOld
import Derived.Below
import Derived.SizedLaws
namespace Go.Proofs.Ytpalbpakeokimaa.PK
set_option linter.unusedVariables false
set_option linter.unusedSimpArgs false
open Go.RowKit Go.Proofs.YtpalbpakeokimaaW.PrintWords Go.Proofs.YtpalbpakeokimaaW.PrintLast Go.Proofs.YtpalbpakeokimaaW.PrintMore
set_option maxHeartbeats 8000000 in
set_option maxRecDepth 100000 in
theorem forms_walk (A0 : Option Addr) (c0 : Nat) (l0 : List Int) (A1 : Option Addr) (c1 : Nat) (l1 : List Int) (A2 : Option Addr) (c2 : Nat) (l2 : List S45) (A3 : Option Addr) (c3 : Nat) (l3 : List Int) (A5 : Option Addr) (c5 : Nat) (l5 : List S92) (A7 : Option Addr) (c7 : Nat) (l7 : List S80) (a4 a6 a8 : Int) (a9 : ByteArray) (w : World) (hr0 : Kd.C (Kd.int .u32) w A0 l0.length l0) (hc0 : l0.length ≤ c0) (hr1 : Kd.C (Kd.int .u8) w A1 l1.length l1) (hc1 : l1.length ≤ c1) (hr2 : Kd.C k45 w A2 l2.length l2) (hc2 : l2.length ≤ c2) (hr3 : Kd.C (Kd.int .i64) w A3 l3.length l3) (hc3 : l3.length ≤ c3) (hr5 : Kd.C k92 w A5 l5.length l5) (hc5 : l5.length ≤ c5) (hr7 : Kd.C k80 w A7 l7.length l7) (hc7 : l7.length ≤ c7) (hs : ∀ x ∈ l2, x.f0.size ≤ 9223372036854775807) (hf : machFits l0 l1 l2 l3 l5 l7 = true) :
    Calls Try.prog 5 #[.agg #[.slice A0 l0.length c0, .slice A1 l1.length c1, .slice A2 l2.length c2, .slice A3 l3.length c3, .int .u32 a4, .slice A5 l5.length c5, .int .i64 a6, .slice A7 l7.length c7, .int .i64 a8, .string a9]] w fun e w' => e = .returned (.bool true) ∧ Below w.heap.size w w' := by
  replace hr0 := Aside0.mk hr0
  replace hc0 := Aside0.mk hc0
  replace hr1 := Aside0.mk hr1
  replace hc1 := Aside0.mk hc1
  replace hr2 := Aside0.mk hr2
  replace hc2 := Aside0.mk hc2
  replace hr3 := Aside0.mk hr3
  replace hc3 := Aside0.mk hc3
  replace hr5 := Aside0.mk hr5
  replace hc5 := Aside0.mk hc5
  replace hr7 := Aside0.mk hr7
  replace hc7 := Aside0.mk hc7
  have HS := Aside0.mk hs
  have CP : Aside0 (dict_Copy.f l0 l1 l2 l3 a4 l5 a6 l7 a8 a9 = some (l0, l1, l2, l3, a4, l5, a6, l7, a8, a9)) := ⟨if_pos hf⟩
  obtain ⟨b, hb0⟩ : ∃ b, formedR l0 l1 l2 l3 l5 l7 a4 a6 a8 a9 = b := ⟨_, rfl⟩
  have FR := Aside0.mk hb0
  have FD : Aside0 (dict_Formed.f l0 l1 l2 l3 a4 l5 a6 l7 a8 a9 = some b) := ⟨by rw [← hb0]; exact formed_same l0 l1 l2 l3 a4 l5 a6 l7 a8 a9⟩
  clear hs hf hb0
  have L0 := below_alloc (Below.refl w.heap.size w) (.cells #[.slice A0 l0.length c0, .slice A1 l1.length c1, .slice A2 l2.length c2, .slice A3 l3.length c3, .int .u32 a4, .slice A5 l5.length c5, .int .i64 a6, .slice A7 l7.length c7, .int .i64 a8, .string a9] 35)
  have N0 := blk_new w (.cells #[.slice A0 l0.length c0, .slice A1 l1.length c1, .slice A2 l2.length c2, .slice A3 l3.length c3, .int .u32 a4, .slice A5 l5.length c5, .int .i64 a6, .slice A7 l7.length c7, .int .i64 a8, .string a9] 35)
  obtain ⟨W1, hW1⟩ : ∃ W1, (w.alloc (.cells #[.slice A0 l0.length c0, .slice A1 l1.length c1, .slice A2 l2.length c2, .slice A3 l3.length c3, .int .u32 a4, .slice A5 l5.length c5, .int .i64 a6, .slice A7 l7.length c7, .int .i64 a8, .string a9] 35)).drew = W1 := ⟨_, rfl⟩
  have BX1 : Aside0 (RowAt W1 w.heap.size 35 10 1 1 [.slice A0 l0.length c0, .slice A1 l1.length c1, .slice A2 l2.length c2, .slice A3 l3.length c3, .int .u32 a4, .slice A5 l5.length c5, .int .i64 a6, .slice A7 l7.length c7, .int .i64 a8, .string a9]) := ⟨by rw [← hW1]; exact ⟨N0, Nat.le_refl _, by decide, rfl⟩⟩
  have HB1 : Aside0 (Below w.heap.size w W1) := ⟨by rw [← hW1]; exact below_drew L0⟩
  clear L0 N0
  go_enter Try.func5, Try.ntmps5
  go_wp2
  refine start_ (n := 15) (S := fun w' => w'.cell? ⟨w.heap.size, 0, none⟩ = some (.slice A0 l0.length c0) ∧ w'.cell? ⟨w.heap.size, 1, none⟩ = some (.slice A1 l1.length c1) ∧ w'.cell? ⟨w.heap.size, 2, none⟩ = some (.slice A2 l2.length c2) ∧ w'.cell? ⟨w.heap.size, 3, none⟩ = some (.slice A3 l3.length c3) ∧ w'.cell? ⟨w.heap.size, 4, none⟩ = some (.int .u32 a4) ∧ w'.cell? ⟨w.heap.size, 5, none⟩ = some (.slice A5 l5.length c5) ∧ w'.cell? ⟨w.heap.size, 6, none⟩ = some (.int .i64 a6) ∧ w'.cell? ⟨w.heap.size, 7, none⟩ = some (.slice A7 l7.length c7) ∧ w'.cell? ⟨w.heap.size, 8, none⟩ = some (.int .i64 a8) ∧ w'.cell? ⟨w.heap.size, 9, none⟩ = some (.string a9)) (ds := []) #[false, false, false, false, false, false, false, false, false, false, false, false, false, false, false] (by kernel_rfl) rfl rfl (by rw [hW1]; exact ⟨BX1.out.cell rfl, BX1.out.cell rfl, BX1.out.cell rfl, BX1.out.cell rfl, BX1.out.cell rfl, BX1.out.cell rfl, BX1.out.cell rfl, BX1.out.cell rfl, BX1.out.cell rfl, BX1.out.cell rfl⟩) (fun hHeld => ?_)
  rw [hW1] at hHeld ⊢
  clear hW1
  refine one_ (i := 0) (N := some 3) #[true, false, false, false, false, false, false, false, false, false, false, false, false, false, false] rfl rfl (by kernel_rfl) (by decide) (fun K hK => ?_)
  refine goes_ Try.func9 (by kernel_rfl) rfl #[] (by rfl) rfl rfl (by (try simp only [List.map_toArray, List.map_cons, List.map_nil]); first | done | rfl) ?_
  refine (tinderlaw09_alive.calls true _ alive_true).mono ?_
  rintro e W2 ⟨rfl, hb⟩
  refine ⟨_, rfl, ?_⟩
  have BX2 := Aside0.mk (BX1.out.kept (hb.block _ (blk_lt BX1.out.1)))
  have HB2 := Aside0.mk (below_then HB1.out HB1.out.size hb)
  clear hb
  refine hK.out _ _ ⟨BX2.out.cell rfl, BX2.out.cell rfl, BX2.out.cell rfl, BX2.out.cell rfl, BX2.out.cell rfl, BX2.out.cell rfl, BX2.out.cell rfl, BX2.out.cell rfl, BX2.out.cell rfl, BX2.out.cell rfl⟩ (fun hHeld => ?_)
  clear hK K
  refine norm_ (a' := ?_) ?_ ?_
  rotate_left
  · show Act.put _ (some 3) _ = _
    simp only [Act.put, List.setIfInBounds_toArray, List.set_cons_zero, List.set_cons_succ]
    rfl
  refine pure_ (i := 1) (N := some 4) (v := ?_) (a' := ?_) #[true, true, false, false, false, false, false, false, false, false, false, false, false, false, false] rfl rfl (by kernel_rfl) (fun _ _ _ h => h) (Or.inl ⟨by rfl, ?_⟩) ?_ ?_
  rotate_left
  · intro w'
    go_simp
    with_reducible rfl
  rotate_left
  · simp only [Act.put, List.setIfInBounds_toArray, List.set_cons_zero, List.set_cons_succ]
    rfl
  refine take_ (i := 2) (N := some 5) (v := ?_) (a' := ?_) #[true, true, true, false, false, false, false, false, false, false, false, false, false, false, false] rfl rfl (by kernel_rfl) (fun _ _ _ h => h) (Or.inl ⟨by rfl, ?_⟩) hHeld ?_ ?_
  rotate_left
  · rintro w' ⟨s0, s1, s2, s3, s4, s5, s6, s7, s8, s9⟩
    go_simp
    with_reducible rfl
  rotate_left
  · simp only [Act.put, List.setIfInBounds_toArray, List.set_cons_zero, List.set_cons_succ]
    rfl
  refine take_ (i := 4) (N := some 7) (v := ?_) (a' := ?_) #[true, true, true, false, true, false, false, false, false, false, false, false, false, false, false] rfl rfl (by kernel_rfl) (fun _ _ _ h => h) (Or.inl ⟨by rfl, ?_⟩) hHeld ?_ ?_
  rotate_left
  · rintro w' ⟨s0, s1, s2, s3, s4, s5, s6, s7, s8, s9⟩
    go_simp
    with_reducible rfl
  rotate_left
  · simp only [Act.put, List.setIfInBounds_toArray, List.set_cons_zero, List.set_cons_succ]
    rfl
  refine one_ (i := 3) (N := some 6) #[true, true, true, true, true, false, false, false, false, false, false, false, false, false, false] rfl rfl (by kernel_rfl) (by decide) (fun K hK => ?_)
  refine goes_ Try.func20 (by kernel_rfl) rfl #[.agg #[.slice A0 l0.length c0, .slice A1 l1.length c1, .slice A2 l2.length c2, .slice A3 l3.length c3, .int .u32 a4, .slice A5 l5.length c5, .int .i64 a6, .slice A7 l7.length c7, .int .i64 a8, .string a9]] (by rfl) rfl rfl (by (try simp only [List.map_toArray, List.map_cons, List.map_nil]); first | done | rfl) ?_
  refine (dict_Formed.calls A0 c0 l0 A1 c1 l1 A2 c2 l2 A3 c3 l3 a4 A5 c5 l5 a6 A7 c7 l7 a8 a9 b _ (Kd.C_below hr0.out HB2.out) hc0.out (Kd.C_below hr1.out HB2.out) hc1.out (Kd.C_below hr2.out HB2.out) hc2.out (Kd.C_below hr3.out HB2.out) hc3.out (Kd.C_below hr5.out HB2.out) hc5.out (Kd.C_below hr7.out HB2.out) hc7.out FD.out).mono ?_
  rintro e W3 ⟨rfl, hb⟩
  refine ⟨_, rfl, ?_⟩
  have BX3 := Aside0.mk (BX2.out.kept (hb.block _ (blk_lt BX2.out.1)))
  have HB3 := Aside0.mk (below_then HB2.out HB2.out.size hb)
  clear hb
  refine hK.out _ _ ⟨BX3.out.cell rfl, BX3.out.cell rfl, BX3.out.cell rfl, BX3.out.cell rfl, BX3.out.cell rfl, BX3.out.cell rfl, BX3.out.cell rfl, BX3.out.cell rfl, BX3.out.cell rfl, BX3.out.cell rfl⟩ (fun hHeld => ?_)
  clear hK K
  refine norm_ (a' := ?_) ?_ ?_
  rotate_left
  · show Act.put _ (some 6) _ = _
    simp only [Act.put, List.setIfInBounds_toArray, List.set_cons_zero, List.set_cons_succ]
    rfl
  refine one_ (i := 5) (N := some 8) #[true, true, true, true, true, true, false, false, false, false, false, false, false, false, false] rfl rfl (by kernel_rfl) (by decide) (fun K hK => ?_)
  refine goes_ Try.func21 (by kernel_rfl) rfl #[.agg #[.slice A0 l0.length c0, .slice A1 l1.length c1, .slice A2 l2.length c2, .slice A3 l3.length c3, .int .u32 a4, .slice A5 l5.length c5, .int .i64 a6, .slice A7 l7.length c7, .int .i64 a8, .string a9]] (by rfl) rfl rfl (by (try simp only [List.map_toArray, List.map_cons, List.map_nil]); first | done | rfl) ?_
  refine (ref09_formed l0 l1 l2 l3 l5 l7 a4 a6 a8 a9 _ A0 c0 (Kd.C_below hr0.out HB3.out) hc0.out A1 c1 (Kd.C_below hr1.out HB3.out) hc1.out A2 c2 (Kd.C_below hr2.out HB3.out) hc2.out A3 c3 (Kd.C_below hr3.out HB3.out) hc3.out A5 c5 (Kd.C_below hr5.out HB3.out) hc5.out A7 c7 (Kd.C_below hr7.out HB3.out) hc7.out HS.out).mono ?_
  rw [FR.out]
  rintro e W4 ⟨rfl, hb⟩
  refine ⟨_, rfl, ?_⟩
  have BX4 := Aside0.mk (BX3.out.kept (hb.block _ (blk_lt BX3.out.1)))
  have HB4 := Aside0.mk (below_then HB3.out HB3.out.size hb)
  clear hb
  refine hK.out _ _ ⟨BX4.out.cell rfl, BX4.out.cell rfl, BX4.out.cell rfl, BX4.out.cell rfl, BX4.out.cell rfl, BX4.out.cell rfl, BX4.out.cell rfl, BX4.out.cell rfl, BX4.out.cell rfl, BX4.out.cell rfl⟩ (fun hHeld => ?_)
  clear hK K
  refine norm_ (a' := ?_) ?_ ?_
  rotate_left
  · show Act.put _ (some 8) _ = _
    simp only [Act.put, List.setIfInBounds_toArray, List.set_cons_zero, List.set_cons_succ]
    rfl
  refine pure_ (i := 6) (N := some 9) (v := ?_) (a' := ?_) #[true, true, true, true, true, true, true, false, false, false, false, false, false, false, false] rfl rfl (by kernel_rfl) (fun _ _ _ h => h) (Or.inl ⟨by rfl, ?_⟩) ?_ ?_
  rotate_left
  · intro w'
    go_simp
    with_reducible rfl
  rotate_left
  · simp only [Act.put, List.setIfInBounds_toArray, List.set_cons_zero, List.set_cons_succ]
    rfl
  refine pure_ (i := 7) (N := some 10) (v := ?_) (a' := ?_) #[true, true, true, true, true, true, true, true, false, false, false, false, false, false, false] rfl rfl (by kernel_rfl) (fun _ _ _ h => h) (Or.inl ⟨by rfl, ?_⟩) ?_ ?_
  rotate_left
  · intro w'
    go_simp
    with_reducible rfl
  rotate_left
  · simp only [Act.put, List.setIfInBounds_toArray, List.set_cons_zero, List.set_cons_succ]
    rfl
  refine pure_ (i := 8) (N := some 11) (v := ?_) (a' := ?_) #[true, true, true, true, true, true, true, true, true, false, false, false, false, false, false] rfl rfl (by kernel_rfl) (fun _ _ _ h => h) (Or.inl ⟨by rfl, ?_⟩) ?_ ?_
  rotate_left
  · intro w'
    go_simp
    with_reducible rfl
  rotate_left
  · simp only [Act.put, List.setIfInBounds_toArray, List.set_cons_zero, List.set_cons_succ]
    rfl
  refine take_ (i := 9) (N := some 12) (v := ?_) (a' := ?_) #[true, true, true, true, true, true, true, true, true, true, false, false, false, false, false] rfl rfl (by kernel_rfl) (fun _ _ _ h => h) (Or.inl ⟨by rfl, ?_⟩) hHeld ?_ ?_
  rotate_left
  · rintro w' ⟨s0, s1, s2, s3, s4, s5, s6, s7, s8, s9⟩
    go_simp
    with_reducible rfl
  rotate_left
  · simp only [Act.put, List.setIfInBounds_toArray, List.set_cons_zero, List.set_cons_succ]
    rfl
  refine take_ (i := 11) (N := some 14) (v := ?_) (a' := ?_) #[true, true, true, true, true, true, true, true, true, true, false, true, false, false, false] rfl rfl (by kernel_rfl) (fun _ _ _ h => h) (Or.inl ⟨by rfl, ?_⟩) hHeld ?_ ?_
  rotate_left
  · rintro w' ⟨s0, s1, s2, s3, s4, s5, s6, s7, s8, s9⟩
    go_simp
    with_reducible rfl
  rotate_left
  · simp only [Act.put, List.setIfInBounds_toArray, List.set_cons_zero, List.set_cons_succ]
    rfl
  refine one_ (i := 10) (N := some 13) #[true, true, true, true, true, true, true, true, true, true, true, true, false, false, false] rfl rfl (by kernel_rfl) (by decide) (fun K hK => ?_)
  refine goes_ Try.func23 (by kernel_rfl) rfl #[.agg #[.slice A0 l0.length c0, .slice A1 l1.length c1, .slice A2 l2.length c2, .slice A3 l3.length c3, .int .u32 a4, .slice A5 l5.length c5, .int .i64 a6, .slice A7 l7.length c7, .int .i64 a8, .string a9]] (by rfl) rfl rfl (by (try simp only [List.map_toArray, List.map_cons, List.map_nil]); first | done | rfl) ?_
  refine (dict_Copy.calls A0 c0 l0 A1 c1 l1 A2 c2 l2 A3 c3 l3 a4 A5 c5 l5 a6 A7 c7 l7 a8 a9 l0 l1 l2 l3 a4 l5 a6 l7 a8 a9 _ (Kd.C_below hr0.out HB4.out) hc0.out (Kd.C_below hr1.out HB4.out) hc1.out (Kd.C_below hr2.out HB4.out) hc2.out (Kd.C_below hr3.out HB4.out) hc3.out (Kd.C_below hr5.out HB4.out) hc5.out (Kd.C_below hr7.out HB4.out) hc7.out CP.out).mono ?_
  rintro e W5 ⟨v0, v1, v2, v3, v5, v7, rfl, R0, R1, R2, R3, R5, R7, hb⟩
  refine ⟨_, rfl, ?_⟩
  obtain ⟨P0, q0, rfl⟩ := Kd.R_slice R0
  obtain ⟨P1, q1, rfl⟩ := Kd.R_slice R1
  obtain ⟨P2, q2, rfl⟩ := Kd.S_slice R2
  obtain ⟨P3, q3, rfl⟩ := Kd.R_slice R3
  obtain ⟨P5, q5, rfl⟩ := Kd.R_slice R5
  obtain ⟨P7, q7, rfl⟩ := Kd.S_slice R7
  have G0 := Aside0.mk (Kd.R_reads' R0).2
  have G1 := Aside0.mk (Kd.R_reads' R1).2
  have G2 := Aside0.mk (Kd.S_reads' R2).2
  have G3 := Aside0.mk (Kd.R_reads' R3).2
  have G5 := Aside0.mk (Kd.R_reads' R5).2
  have G7 := Aside0.mk (Kd.S_reads' R7).2
  clear R0 R1 R2 R3 R5 R7
  have BX5 := Aside0.mk (BX4.out.kept (hb.block _ (blk_lt BX4.out.1)))
  have HB5 := Aside0.mk (below_then HB4.out HB4.out.size hb)
  clear hb
  refine hK.out _ _ ⟨BX5.out.cell rfl, BX5.out.cell rfl, BX5.out.cell rfl, BX5.out.cell rfl, BX5.out.cell rfl, BX5.out.cell rfl, BX5.out.cell rfl, BX5.out.cell rfl, BX5.out.cell rfl, BX5.out.cell rfl⟩ (fun hHeld => ?_)
  clear hK K
  refine norm_ (a' := ?_) ?_ ?_
  rotate_left
  · show Act.put _ (some 13) _ = _
    simp only [Act.put, List.setIfInBounds_toArray, List.set_cons_zero, List.set_cons_succ]
    rfl
  refine one_ (i := 12) (N := some 15) #[true, true, true, true, true, true, true, true, true, true, true, true, true, false, false] rfl rfl (by kernel_rfl) (by decide) (fun K hK => ?_)
  refine goes_ Try.func22 (by kernel_rfl) rfl #[.agg #[.slice P0 l0.length q0, .slice P1 l1.length q1, .slice P2 l2.length q2, .slice P3 l3.length q3, .int .u32 a4, .slice P5 l5.length q5, .int .i64 a6, .slice P7 l7.length q7, .int .i64 a8, .string a9], .agg #[.slice A0 l0.length c0, .slice A1 l1.length c1, .slice A2 l2.length c2, .slice A3 l3.length c3, .int .u32 a4, .slice A5 l5.length c5, .int .i64 a6, .slice A7 l7.length c7, .int .i64 a8, .string a9]] (by rfl) rfl rfl (by (try simp only [List.map_toArray, List.map_cons, List.map_nil]); first | done | rfl) ?_
  refine (same09_true l0 l1 l2 l3 l5 l7 a4 a6 a8 a9 P0 q0 A0 c0 P1 q1 A1 c1 P2 q2 A2 c2 P3 q3 A3 c3 P5 q5 A5 c5 P7 q7 A7 c7 _ G0.out.2 G0.out.1 (Kd.C_below hr0.out HB5.out) hc0.out G1.out.2 G1.out.1 (Kd.C_below hr1.out HB5.out) hc1.out G2.out.2 G2.out.1 (Kd.C_below hr2.out HB5.out) hc2.out G3.out.2 G3.out.1 (Kd.C_below hr3.out HB5.out) hc3.out G5.out.2 G5.out.1 (Kd.C_below hr5.out HB5.out) hc5.out G7.out.2 G7.out.1 (Kd.C_below hr7.out HB5.out) hc7.out).mono ?_
  rintro e W6 ⟨rfl, hb⟩
  refine ⟨_, rfl, ?_⟩
  have BX6 := Aside0.mk (BX5.out.kept (hb.block _ (blk_lt BX5.out.1)))
  have HB6 := Aside0.mk (below_then HB5.out HB5.out.size hb)
  clear hb
  refine hK.out _ _ ⟨BX6.out.cell rfl, BX6.out.cell rfl, BX6.out.cell rfl, BX6.out.cell rfl, BX6.out.cell rfl, BX6.out.cell rfl, BX6.out.cell rfl, BX6.out.cell rfl, BX6.out.cell rfl, BX6.out.cell rfl⟩ (fun hHeld => ?_)
  clear hK K
  refine norm_ (a' := ?_) ?_ ?_
  rotate_left
  · show Act.put _ (some 15) _ = _
    simp only [Act.put, List.setIfInBounds_toArray, List.set_cons_zero, List.set_cons_succ]
    rfl
  refine pure_ (i := 13) (N := some 16) (v := ?_) (a' := ?_) #[true, true, true, true, true, true, true, true, true, true, true, true, true, true, false] rfl rfl (by kernel_rfl) (fun _ _ _ h => h) (Or.inl ⟨by rfl, ?_⟩) ?_ ?_
  rotate_left
  · intro w'
    go_simp
    with_reducible rfl
  rotate_left
  · simp only [Act.put, List.setIfInBounds_toArray, List.set_cons_zero, List.set_cons_succ]
    rfl
  refine pure_ (i := 14) (N := some 2) (v := ?_) (a' := ?_) #[true, true, true, true, true, true, true, true, true, true, true, true, true, true, true] rfl rfl (by kernel_rfl) (fun _ _ _ h => h) (Or.inl ⟨by rfl, ?_⟩) ?_ ?_
  rotate_left
  · intro w'
    go_simp
    with_reducible rfl
  rotate_left
  · simp only [Act.put, List.setIfInBounds_toArray, List.set_cons_zero, List.set_cons_succ]
    rfl
  refine done_ (by kernel_rfl) ?_
  go_wp2
  go_ret
  exact ⟨by first | rfl | simp, HB6.out⟩
theorem reach_le : reachBytes ≤ 140737488355328 := by decide
theorem fits_machine {l0 l1 : List Int} {l2 : List S45} {l3 : List Int} {l5 : List S92} {l7 : List S80} (i0 : Jrow 4 (Iint .u32) l0) (i1 : Jrow 1 (Iint .u8) l1) (i2 : Jrow 64 J45 l2) (i3 : Jrow 8 (Iint .i64) l3) (i5 : Jrow 96 J92 l5) (i7 : Jrow 56 J80 l7) : machFits l0 l1 l2 l3 l5 l7 = true := by
  have hr := reach_le
  have le : ∀ n, n ≤ reachBytes → n ≤ 140737488355328 := fun n h => Nat.le_trans h hr
  unfold machFits
  simp only [Bool.and_eq_true, decide_eq_true_eq]
  refine ⟨⟨⟨⟨⟨⟨⟨le _ i0.1.2, le _ i1.1.2⟩, le _ i3.1.2⟩, le _ i2.1.2⟩, List.all_eq_true.2 fun x hx => ?_⟩, le _ i7.1.2⟩, List.all_eq_true.2 fun x hx => ?_⟩, ?_⟩
  · unfold opsFits
    simp only [decide_eq_true_eq]
    exact le _ (i2.2 x hx).2.2.2.2.1.2
  · unfold cellsFits
    simp only [decide_eq_true_eq]
    exact le _ (i7.2 x hx).2.2.2.1.2
  · unfold treeFits
    simp only [Bool.and_eq_true, decide_eq_true_eq]
    refine ⟨le _ i5.1.2, List.all_eq_true.2 fun x hx => ?_⟩
    obtain ⟨_, j1, _, j3, j4⟩ := i5.2 x hx
    unfold nodeFits
    simp only [Bool.and_eq_true, decide_eq_true_eq]
    refine ⟨⟨⟨le _ j1.1.2, le _ j4.1.2⟩, le _ j3.1.2⟩, List.all_eq_true.2 fun p hp => ?_⟩
    unfold propFits
    simp only [decide_eq_true_eq]
    exact le _ (j3.2 p hp).2.1.2
end Go.Proofs.Ytpalbpakeokimaa.PK
namespace Go.Proofs.Ytpalbpakeokimaa.dictForms
open Go.ChangeShapes Go.WideShapes Go.ChangeAt Go.RowKit Go.Proofs.Ytpalbpakeokimaa.PK Go.Proofs.YtpalbpakeokimaaW.PrintWords
open Go.ChangeMaps (open_string shut_string)
set_option linter.unusedVariables false
theorem own : ownKnob Try.prog.godebug = none := by kernel_rfl
theorem laidOut : laidOutB Try.prog = true := by kernel_rfl
set_option maxRecDepth 100000 in
theorem lifted (os : Os) (started : os.Started) (H : Type) (enc : TypeId × Value → H) :
    ReturnsInHanded {} Try.checked os 5 .any (Rows.dictFormsSpec.pre6 enc Try.prog Try.f5 Rows.dictFormsRow.domain false) (Rows.dictFormsSpec.post enc Try.prog Try.f5 false true false false) := by
  refine returnsInHanded_of_change_sized (C := Try.checked) own started (by kernel_rfl) Try.func5
    (ChangeSpec.witness6 (enc := enc) (C := Try.checked) false ⟨#[], #[.agg #[.slice none 0 0, .slice none 0 0, .slice none 0 0, .slice none 0 0, .int .u32 0, .slice none 0 0, .int .i64 0, .slice none 0 0, .int .i64 0, .string ByteArray.empty]], []⟩ 8 (by kernel_rfl) (by kernel_rfl) (by kernel_rfl) (by kernel_rfl)) ?_
  intro W base args ds gs before hval0 hW hcnd hsz0 _
  have hval : ∀ (j : Nat) t v, Try.f5.params[j]? = some t → args[j]? = some v → Value.okWide Try.prog W .any base t v := hval0
  have hW' := hW
  obtain ⟨p, q, hA0, hV, rfl, hfz, hnd⟩ := hW
  have hA : DataW.TrodAll enc Try.prog W 0 (fun _ => true) true Try.f5.params.toList args.toList ds p := hA0
  rw [Try.params5] at hA hval
  obtain ⟨v0, vs0, d0, ds0, p0, q0, hargs, rfl, rfl, h0, r0⟩ := trodAll_cons hA
  obtain ⟨rfl, rfl, rfl⟩ := trodAll_nil r0
  obtain rfl : args = #[v0] := by cases args; simp_all
  obtain ⟨rfl, rfl⟩ := trodVars_none hV
  have k0 := h0
  have lt0 : ∀ x ∈ p0, x.block < W.heap.size := by obtain ⟨m, hm⟩ := k0; exact DataW.trod_lt m _ _ _ hm
  have hz : Fit (d0.weights Try.prog 35) := List.all_eq_true.2 fun n hn => List.all_eq_true.1 hsz0 n (DataW.weights_mem_each (j := 0) (t := 35) (d := d0) rfl rfl n hn)
  obtain ⟨A0, c0, l0, A1, c1, l1, A2, c2, l2, A3, c3, l3, a4, A5, c5, l5, a6, A7, c7, l7, a8, a9, rfl, ⟨hr0, hc0⟩, ⟨hr1, hc1⟩, ⟨hr2, hc2⟩, ⟨hr3, hc3⟩, ⟨hr5, hc5⟩, ⟨hr7, hc7⟩, i0, i1, i2, i3, i4, i5, i6, i7, i8, i9⟩ := openz_machine (hval 0 35 v0 rfl rfl) h0 hz
  clear hA0 hval0 hsz0
  refine (forms_walk A0 c0 l0 A1 c1 l1 A2 c2 l2 A3 c3 l3 A5 c5 l5 A7 c7 l7 a4 a6 a8 a9 W hr0 hc0 hr1 hc1 hr2 hc2 hr3 hc3 hr5 hc5 hr7 hc7 (fun x hx => by have h1 := (i2.2 x hx).1; unfold Istr maxLen at h1; omega) (fits_machine i0 i1 i2 i3 i5 i7)).mono fun e W' ⟨he, bel⟩ => ?_
  subst he
  exact ⟨_, rfl, _, _, _, [], _, [], hW', trodAll_mk1 (shut_bool Try.underlying4 _), (trodAll_cons_mk (Below.trod laidOut (by kernel_rfl) (of_decide_eq_true (by kernel_rfl)) k0 bel lt0) trodAll_mk0), rfl, bel.frame _, fun h => by cases h⟩
theorem over : Rows.dictFormsRow.holds Try.pinned (OpenSpec.ofChange Rows.dictFormsSpec) :=
  OpenClaim.holds_of_wide 5 Try.f5 rfl rfl rfl rfl rfl rfl rfl ⟨rfl, rfl, rfl, rfl, rfl⟩ rfl rfl rfl rfl rfl (by kernel_rfl) Try.func5 (by kernel_rfl)
    (of_decide_eq_true (by kernel_rfl)) (by unfold Func.isWrapper; first | (rw [if_pos (by decide +kernel)]; kernel_rfl) | (rw [if_neg (by decide +kernel)]; exact ⟨rfl, rfl⟩))
    (fun os started H enc _ => lifted os started H enc)
theorem proved : Rows.DictFormsSaid := over
end Go.Proofs.Ytpalbpakeokimaa.dictForms
namespace Go.Proofs.Ytpalbpakeokimaa
theorem dictForms_holds : Rows.DictFormsSaid := dictForms.proved
#print axioms dictForms_holds
end Go.Proofs.Ytpalbpakeokimaa
