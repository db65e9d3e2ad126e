/- tinder: a part of the proof, joined and pruned by wip/tools/prune.py out of: Gd -/
import Derived.Test.YtpalbpakeokimaaFGu
import Derived.Test.YtpalbpakeokimaaFGj
import Derived.Test.YtpalbpakeokimaaFK30
namespace Go.Proofs.Ytpalbpakeokimaa.PK
set_option linter.unusedVariables false
set_option linter.unusedSimpArgs false
open Go.RowKit Go.Proofs.YtpalbpakeokimaaW.PrintWords Go.Proofs.YtpalbpakeokimaaW.PrintLast Go.Proofs.YtpalbpakeokimaaW.PrintMore
open Go.Shelf
def wildB (n : Nat) (x : Int) : Bool := decide (x < -1) || decide (x ≥ (n : Int))
noncomputable def dict_Formed.f (l0_0 : List Int) (l0_1 : List Int) (l0_2 : List (S45)) (l0_3 : List Int) (a0_4 : Int) (l0_5 : List (S92)) (a0_6 : Int) (l0_7 : List (S80)) (a0_8 : Int) (a0_9 : ByteArray) : Option (Bool) := if (decide (64 < (l0_0.length : Int))) = true then some false else if (decide (4096 < (l0_1.length : Int))) = true then some false else if (decide (1024 < (a0_9.size : Int))) = true then some false else if (decide (2048 < (l0_3.length : Int))) = true then some false else if (decide (a0_4 < 2)) = true then some false else if (decide (36 < a0_4)) = true then some false else if (!(treeB l0_5)) = true then some false else if (decide (a0_6 < -1)) = true then some false else if (decide (a0_6 ≥ (l0_5.length : Int))) = true then some false else (anyK fun k => dict_instsRight.f k l0_0 l0_1 l0_2 l0_3 a0_4 l0_5 a0_6 l0_7 a0_8 a0_9).bind fun b => if b = true then (dict_wordsRight.f l0_0 l0_1 l0_2 l0_3 a0_4 l0_5 a0_6 l0_7 a0_8 a0_9).bind fun c => if c = true then some (!(l0_3.any (wildB l0_2.length))) else some false else some false
set_option maxHeartbeats 8000000 in
set_option maxRecDepth 100000 in
theorem dict_Formed.calls (A0_0 : Option Addr) (c0_0 : Nat) (l0_0 : List Int) (A0_1 : Option Addr) (c0_1 : Nat) (l0_1 : List Int) (A0_2 : Option Addr) (c0_2 : Nat) (l0_2 : List (S45)) (A0_3 : Option Addr) (c0_3 : Nat) (l0_3 : List Int) (a0_4 : Int) (A0_5 : Option Addr) (c0_5 : Nat) (l0_5 : List (S92)) (a0_6 : Int) (A0_7 : Option Addr) (c0_7 : Nat) (l0_7 : List (S80)) (a0_8 : Int) (a0_9 : ByteArray) (r : Bool) (w : World) (hr0_0 : Kd.C (Kd.int .u32) w A0_0 l0_0.length l0_0) (hc0_0 : l0_0.length ≤ c0_0) (hr0_1 : Kd.C (Kd.int .u8) w A0_1 l0_1.length l0_1) (hc0_1 : l0_1.length ≤ c0_1) (hr0_2 : Kd.C k45 w A0_2 l0_2.length l0_2) (hc0_2 : l0_2.length ≤ c0_2) (hr0_3 : Kd.C (Kd.int .i64) w A0_3 l0_3.length l0_3) (hc0_3 : l0_3.length ≤ c0_3) (hr0_5 : Kd.C k92 w A0_5 l0_5.length l0_5) (hc0_5 : l0_5.length ≤ c0_5) (hr0_7 : Kd.C k80 w A0_7 l0_7.length l0_7) (hc0_7 : l0_7.length ≤ c0_7) (h : dict_Formed.f l0_0 l0_1 l0_2 l0_3 a0_4 l0_5 a0_6 l0_7 a0_8 a0_9 = some r) :
    Calls Try.prog 20 #[.agg #[.slice A0_0 l0_0.length c0_0, .slice A0_1 l0_1.length c0_1, .slice A0_2 l0_2.length c0_2, .slice A0_3 l0_3.length c0_3, .int .u32 a0_4, .slice A0_5 l0_5.length c0_5, .int .i64 a0_6, .slice A0_7 l0_7.length c0_7, .int .i64 a0_8, .string a0_9]] w fun e w' => e = .returned (.bool r) ∧ Below w.heap.size w w' := by
  unfold dict_Formed.f at h
  have HR0_0 := Aside0.mk hr0_0
  have HC0_0 := Aside0.mk hc0_0
  have HR0_1 := Aside0.mk hr0_1
  have HC0_1 := Aside0.mk hc0_1
  have HR0_2 := Aside0.mk hr0_2
  have HC0_2 := Aside0.mk hc0_2
  have HR0_3 := Aside0.mk hr0_3
  have HC0_3 := Aside0.mk hc0_3
  have HR0_5 := Aside0.mk hr0_5
  have HC0_5 := Aside0.mk hc0_5
  have HR0_7 := Aside0.mk hr0_7
  have HC0_7 := Aside0.mk hc0_7
  clear hr0_0 hc0_0 hr0_1 hc0_1 hr0_2 hc0_2 hr0_3 hc0_3 hr0_5 hc0_5 hr0_7 hc0_7
  by_cases t0 : (decide (64 < (l0_0.length : Int))) = true
  · rw [if_pos t0] at h
    obtain rfl := Option.some.inj h
    clear h
    go_enter Try.func20, Try.ntmps20
    go_wp2
    go_ret
    exact ⟨rfl, below_alloc (Below.refl _ _) _⟩
  rw [if_neg t0] at h
  replace t0 := Bool.eq_false_iff.2 t0
  by_cases t1 : (decide (4096 < (l0_1.length : Int))) = true
  · rw [if_pos t1] at h
    obtain rfl := Option.some.inj h
    clear h
    go_enter Try.func20, Try.ntmps20
    go_wp2
    go_ret
    exact ⟨rfl, below_alloc (Below.refl _ _) _⟩
  rw [if_neg t1] at h
  replace t1 := Bool.eq_false_iff.2 t1
  by_cases t2 : (decide (1024 < (a0_9.size : Int))) = true
  · rw [if_pos t2] at h
    obtain rfl := Option.some.inj h
    clear h
    go_enter Try.func20, Try.ntmps20
    go_wp2
    go_ret
    exact ⟨rfl, below_alloc (Below.refl _ _) _⟩
  rw [if_neg t2] at h
  replace t2 := Bool.eq_false_iff.2 t2
  by_cases t3 : (decide (2048 < (l0_3.length : Int))) = true
  · rw [if_pos t3] at h
    obtain rfl := Option.some.inj h
    clear h
    go_enter Try.func20, Try.ntmps20
    go_wp2
    go_ret
    exact ⟨rfl, below_alloc (Below.refl _ _) _⟩
  rw [if_neg t3] at h
  replace t3 := Bool.eq_false_iff.2 t3
  by_cases t4 : (decide (a0_4 < 2)) = true
  · rw [if_pos t4] at h
    obtain rfl := Option.some.inj h
    clear h
    go_enter Try.func20, Try.ntmps20
    go_wp2
    go_ret
    exact ⟨rfl, below_alloc (Below.refl _ _) _⟩
  rw [if_neg t4] at h
  replace t4 := Bool.eq_false_iff.2 t4
  by_cases t5 : (decide (36 < a0_4)) = true
  · rw [if_pos t5] at h
    obtain rfl := Option.some.inj h
    clear h
    go_enter Try.func20, Try.ntmps20
    go_wp2
    go_ret
    exact ⟨rfl, below_alloc (Below.refl _ _) _⟩
  rw [if_neg t5] at h
  replace t5 := Bool.eq_false_iff.2 t5
  by_cases t6 : (!(treeB l0_5)) = true
  · rw [if_pos t6] at h
    obtain rfl := Option.some.inj h
    clear h
    have HTB : Aside0 (tree_Formed.f l0_5 = some false) := ⟨by unfold tree_Formed.f; cases hq : treeB l0_5 with | true => (rw [hq] at t6; cases t6) | false => rfl⟩
    clear t6
    go_enter Try.func20, Try.ntmps20
    go_wp2_with ((go_at_call 37; refine (tree_Formed.calls _ _ _ false _ (Kd.C_below HR0_5.out (below_alloc (Below.refl _ _) _)) HC0_5.out HTB.out).mono ?_; rintro e w1 ⟨rfl, hb1⟩; have B1 := Aside0.mk ((hb1.block _ (by simp)).trans (blk_new w (.cells #[.slice A0_0 l0_0.length c0_0, .slice A0_1 l0_1.length c0_1, .slice A0_2 l0_2.length c0_2, .slice A0_3 l0_3.length c0_3, .int .u32 a0_4, .slice A0_5 l0_5.length c0_5, .int .i64 a0_6, .slice A0_7 l0_7.length c0_7, .int .i64 a0_8, .string a0_9] 35))); have L1 : Aside0 (Below w.heap.size w w1) := ⟨(below_alloc (Below.refl _ _) _).trans (hb1.mono (by simp))⟩; clear hb1; have u0 := cell_in (j := 0) B1.out rfl; have u1 := cell_in (j := 1) B1.out rfl; have u2 := cell_in (j := 2) B1.out rfl; have u3 := cell_in (j := 3) B1.out rfl; have u4 := cell_in (j := 4) B1.out rfl; have u5 := cell_in (j := 5) B1.out rfl; have u6 := cell_in (j := 6) B1.out rfl; have u7 := cell_in (j := 7) B1.out rfl; have u8 := cell_in (j := 8) B1.out rfl; have u9 := cell_in (j := 9) B1.out rfl))
    go_ret
    exact ⟨rfl, L1.out⟩
  rw [if_neg t6] at h
  have HTB : Aside0 (tree_Formed.f l0_5 = some true) := ⟨by unfold tree_Formed.f; cases hq : treeB l0_5 with | true => rfl | false => (rw [hq] at t6; exact absurd rfl t6)⟩
  clear t6
  by_cases t7 : (decide (a0_6 < -1)) = true
  · rw [if_pos t7] at h
    obtain rfl := Option.some.inj h
    clear h
    go_enter Try.func20, Try.ntmps20
    go_wp2_with ((go_at_call 37; refine (tree_Formed.calls _ _ _ true _ (Kd.C_below HR0_5.out (below_alloc (Below.refl _ _) _)) HC0_5.out HTB.out).mono ?_; rintro e w1 ⟨rfl, hb1⟩; have B1 := Aside0.mk ((hb1.block _ (by simp)).trans (blk_new w (.cells #[.slice A0_0 l0_0.length c0_0, .slice A0_1 l0_1.length c0_1, .slice A0_2 l0_2.length c0_2, .slice A0_3 l0_3.length c0_3, .int .u32 a0_4, .slice A0_5 l0_5.length c0_5, .int .i64 a0_6, .slice A0_7 l0_7.length c0_7, .int .i64 a0_8, .string a0_9] 35))); have L1 : Aside0 (Below w.heap.size w w1) := ⟨(below_alloc (Below.refl _ _) _).trans (hb1.mono (by simp))⟩; clear hb1; have u0 := cell_in (j := 0) B1.out rfl; have u1 := cell_in (j := 1) B1.out rfl; have u2 := cell_in (j := 2) B1.out rfl; have u3 := cell_in (j := 3) B1.out rfl; have u4 := cell_in (j := 4) B1.out rfl; have u5 := cell_in (j := 5) B1.out rfl; have u6 := cell_in (j := 6) B1.out rfl; have u7 := cell_in (j := 7) B1.out rfl; have u8 := cell_in (j := 8) B1.out rfl; have u9 := cell_in (j := 9) B1.out rfl))
    go_ret
    exact ⟨rfl, L1.out⟩
  rw [if_neg t7] at h
  replace t7 := Bool.eq_false_iff.2 t7
  by_cases t8 : (decide (a0_6 ≥ (l0_5.length : Int))) = true
  · rw [if_pos t8] at h
    obtain rfl := Option.some.inj h
    clear h
    go_enter Try.func20, Try.ntmps20
    go_wp2_with ((go_at_call 37; refine (tree_Formed.calls _ _ _ true _ (Kd.C_below HR0_5.out (below_alloc (Below.refl _ _) _)) HC0_5.out HTB.out).mono ?_; rintro e w1 ⟨rfl, hb1⟩; have B1 := Aside0.mk ((hb1.block _ (by simp)).trans (blk_new w (.cells #[.slice A0_0 l0_0.length c0_0, .slice A0_1 l0_1.length c0_1, .slice A0_2 l0_2.length c0_2, .slice A0_3 l0_3.length c0_3, .int .u32 a0_4, .slice A0_5 l0_5.length c0_5, .int .i64 a0_6, .slice A0_7 l0_7.length c0_7, .int .i64 a0_8, .string a0_9] 35))); have L1 : Aside0 (Below w.heap.size w w1) := ⟨(below_alloc (Below.refl _ _) _).trans (hb1.mono (by simp))⟩; clear hb1; have u0 := cell_in (j := 0) B1.out rfl; have u1 := cell_in (j := 1) B1.out rfl; have u2 := cell_in (j := 2) B1.out rfl; have u3 := cell_in (j := 3) B1.out rfl; have u4 := cell_in (j := 4) B1.out rfl; have u5 := cell_in (j := 5) B1.out rfl; have u6 := cell_in (j := 6) B1.out rfl; have u7 := cell_in (j := 7) B1.out rfl; have u8 := cell_in (j := 8) B1.out rfl; have u9 := cell_in (j := 9) B1.out rfl))
    go_ret
    exact ⟨rfl, L1.out⟩
  rw [if_neg t8] at h
  replace t8 := Bool.eq_false_iff.2 t8
  cases hq1 : (anyK fun k => dict_instsRight.f k l0_0 l0_1 l0_2 l0_3 a0_4 l0_5 a0_6 l0_7 a0_8 a0_9) with
  | none => rw [hq1] at h; cases h
  | some b =>
    rw [hq1, Option.bind_some] at h
    obtain ⟨k, hk⟩ := anyK_some hq1
    have HK1 := Aside0.mk hk
    clear hq1 hk
    cases b with
    | false =>
      rw [if_neg (by decide)] at h
      obtain rfl := Option.some.inj h
      clear h
      go_enter Try.func20, Try.ntmps20
      go_wp2_with (first | ((go_at_call 37; refine (tree_Formed.calls _ _ _ true _ (Kd.C_below HR0_5.out (below_alloc (Below.refl _ _) _)) HC0_5.out HTB.out).mono ?_; rintro e w1 ⟨rfl, hb1⟩; have B1 := Aside0.mk ((hb1.block _ (by simp)).trans (blk_new w (.cells #[.slice A0_0 l0_0.length c0_0, .slice A0_1 l0_1.length c0_1, .slice A0_2 l0_2.length c0_2, .slice A0_3 l0_3.length c0_3, .int .u32 a0_4, .slice A0_5 l0_5.length c0_5, .int .i64 a0_6, .slice A0_7 l0_7.length c0_7, .int .i64 a0_8, .string a0_9] 35))); have L1 : Aside0 (Below w.heap.size w w1) := ⟨(below_alloc (Below.refl _ _) _).trans (hb1.mono (by simp))⟩; clear hb1; have u0 := cell_in (j := 0) B1.out rfl; have u1 := cell_in (j := 1) B1.out rfl; have u2 := cell_in (j := 2) B1.out rfl; have u3 := cell_in (j := 3) B1.out rfl; have u4 := cell_in (j := 4) B1.out rfl; have u5 := cell_in (j := 5) B1.out rfl; have u6 := cell_in (j := 6) B1.out rfl; have u7 := cell_in (j := 7) B1.out rfl; have u8 := cell_in (j := 8) B1.out rfl; have u9 := cell_in (j := 9) B1.out rfl)) | ((go_at_call 39; refine (dict_instsRight.calls k _ _ _ _ _ _ _ _ _ _ _ _ _ _ _ _ _ _ _ _ _ _ false _ (Kd.C_below HR0_0.out L1.out) HC0_0.out (Kd.C_below HR0_1.out L1.out) HC0_1.out (Kd.C_below HR0_2.out L1.out) HC0_2.out (Kd.C_below HR0_3.out L1.out) HC0_3.out (Kd.C_below HR0_5.out L1.out) HC0_5.out (Kd.C_below HR0_7.out L1.out) HC0_7.out HK1.out).mono ?_; rintro e w2 ⟨rfl, hb2⟩; have B2 := Aside0.mk ((hb2.block _ (Array.getElem?_eq_some_iff.1 B1.out).1).trans B1.out); have L2 : Aside0 (Below w.heap.size w w2) := ⟨below_then L1.out L1.out.size hb2⟩; clear hb2; have v0 := cell_in (j := 0) B2.out rfl; have v1 := cell_in (j := 1) B2.out rfl; have v2 := cell_in (j := 2) B2.out rfl; have v3 := cell_in (j := 3) B2.out rfl; have v4 := cell_in (j := 4) B2.out rfl; have v5 := cell_in (j := 5) B2.out rfl; have v6 := cell_in (j := 6) B2.out rfl; have v7 := cell_in (j := 7) B2.out rfl; have v8 := cell_in (j := 8) B2.out rfl; have v9 := cell_in (j := 9) B2.out rfl)))
      go_ret
      exact ⟨rfl, L2.out⟩
    | true =>
      rw [if_pos rfl] at h
      cases hq2 : dict_wordsRight.f l0_0 l0_1 l0_2 l0_3 a0_4 l0_5 a0_6 l0_7 a0_8 a0_9 with
      | none => rw [hq2] at h; cases h
      | some c =>
        rw [hq2, Option.bind_some] at h
        have HK2 := Aside0.mk hq2
        clear hq2
        cases c with
        | false =>
          rw [if_neg (by decide)] at h
          obtain rfl := Option.some.inj h
          clear h
          go_enter Try.func20, Try.ntmps20
          go_wp2_with (first | ((go_at_call 37; refine (tree_Formed.calls _ _ _ true _ (Kd.C_below HR0_5.out (below_alloc (Below.refl _ _) _)) HC0_5.out HTB.out).mono ?_; rintro e w1 ⟨rfl, hb1⟩; have B1 := Aside0.mk ((hb1.block _ (by simp)).trans (blk_new w (.cells #[.slice A0_0 l0_0.length c0_0, .slice A0_1 l0_1.length c0_1, .slice A0_2 l0_2.length c0_2, .slice A0_3 l0_3.length c0_3, .int .u32 a0_4, .slice A0_5 l0_5.length c0_5, .int .i64 a0_6, .slice A0_7 l0_7.length c0_7, .int .i64 a0_8, .string a0_9] 35))); have L1 : Aside0 (Below w.heap.size w w1) := ⟨(below_alloc (Below.refl _ _) _).trans (hb1.mono (by simp))⟩; clear hb1; have u0 := cell_in (j := 0) B1.out rfl; have u1 := cell_in (j := 1) B1.out rfl; have u2 := cell_in (j := 2) B1.out rfl; have u3 := cell_in (j := 3) B1.out rfl; have u4 := cell_in (j := 4) B1.out rfl; have u5 := cell_in (j := 5) B1.out rfl; have u6 := cell_in (j := 6) B1.out rfl; have u7 := cell_in (j := 7) B1.out rfl; have u8 := cell_in (j := 8) B1.out rfl; have u9 := cell_in (j := 9) B1.out rfl)) | ((go_at_call 39; refine (dict_instsRight.calls k _ _ _ _ _ _ _ _ _ _ _ _ _ _ _ _ _ _ _ _ _ _ true _ (Kd.C_below HR0_0.out L1.out) HC0_0.out (Kd.C_below HR0_1.out L1.out) HC0_1.out (Kd.C_below HR0_2.out L1.out) HC0_2.out (Kd.C_below HR0_3.out L1.out) HC0_3.out (Kd.C_below HR0_5.out L1.out) HC0_5.out (Kd.C_below HR0_7.out L1.out) HC0_7.out HK1.out).mono ?_; rintro e w2 ⟨rfl, hb2⟩; have B2 := Aside0.mk ((hb2.block _ (Array.getElem?_eq_some_iff.1 B1.out).1).trans B1.out); have L2 : Aside0 (Below w.heap.size w w2) := ⟨below_then L1.out L1.out.size hb2⟩; clear hb2; have v0 := cell_in (j := 0) B2.out rfl; have v1 := cell_in (j := 1) B2.out rfl; have v2 := cell_in (j := 2) B2.out rfl; have v3 := cell_in (j := 3) B2.out rfl; have v4 := cell_in (j := 4) B2.out rfl; have v5 := cell_in (j := 5) B2.out rfl; have v6 := cell_in (j := 6) B2.out rfl; have v7 := cell_in (j := 7) B2.out rfl; have v8 := cell_in (j := 8) B2.out rfl; have v9 := cell_in (j := 9) B2.out rfl)) | ((go_at_call 40; refine (dict_wordsRight.calls _ _ _ _ _ _ _ _ _ _ _ _ _ _ _ _ _ _ _ _ _ _ false _ (Kd.C_below HR0_0.out L2.out) HC0_0.out (Kd.C_below HR0_1.out L2.out) HC0_1.out (Kd.C_below HR0_2.out L2.out) HC0_2.out (Kd.C_below HR0_3.out L2.out) HC0_3.out (Kd.C_below HR0_5.out L2.out) HC0_5.out (Kd.C_below HR0_7.out L2.out) HC0_7.out HK2.out).mono ?_; rintro e w3 ⟨rfl, hb3⟩; have B3 := Aside0.mk ((hb3.block _ (Array.getElem?_eq_some_iff.1 B2.out).1).trans B2.out); have L3 : Aside0 (Below w.heap.size w w3) := ⟨below_then L2.out L2.out.size hb3⟩; clear hb3; have s0 := cell_in (j := 0) B3.out rfl; have s1 := cell_in (j := 1) B3.out rfl; have s2 := cell_in (j := 2) B3.out rfl; have s3 := cell_in (j := 3) B3.out rfl; have s4 := cell_in (j := 4) B3.out rfl; have s5 := cell_in (j := 5) B3.out rfl; have s6 := cell_in (j := 6) B3.out rfl; have s7 := cell_in (j := 7) B3.out rfl; have s8 := cell_in (j := 8) B3.out rfl; have s9 := cell_in (j := 9) B3.out rfl)))
          go_ret
          exact ⟨rfl, L3.out⟩
        | true =>
          rw [if_pos rfl] at h
          obtain rfl := Option.some.inj h
          clear h
          go_enter Try.func20, Try.ntmps20
          go_wp2_with (first | ((go_at_call 37; refine (tree_Formed.calls _ _ _ true _ (Kd.C_below HR0_5.out (below_alloc (Below.refl _ _) _)) HC0_5.out HTB.out).mono ?_; rintro e w1 ⟨rfl, hb1⟩; have B1 := Aside0.mk ((hb1.block _ (by simp)).trans (blk_new w (.cells #[.slice A0_0 l0_0.length c0_0, .slice A0_1 l0_1.length c0_1, .slice A0_2 l0_2.length c0_2, .slice A0_3 l0_3.length c0_3, .int .u32 a0_4, .slice A0_5 l0_5.length c0_5, .int .i64 a0_6, .slice A0_7 l0_7.length c0_7, .int .i64 a0_8, .string a0_9] 35))); have L1 : Aside0 (Below w.heap.size w w1) := ⟨(below_alloc (Below.refl _ _) _).trans (hb1.mono (by simp))⟩; clear hb1; have u0 := cell_in (j := 0) B1.out rfl; have u1 := cell_in (j := 1) B1.out rfl; have u2 := cell_in (j := 2) B1.out rfl; have u3 := cell_in (j := 3) B1.out rfl; have u4 := cell_in (j := 4) B1.out rfl; have u5 := cell_in (j := 5) B1.out rfl; have u6 := cell_in (j := 6) B1.out rfl; have u7 := cell_in (j := 7) B1.out rfl; have u8 := cell_in (j := 8) B1.out rfl; have u9 := cell_in (j := 9) B1.out rfl)) | ((go_at_call 39; refine (dict_instsRight.calls k _ _ _ _ _ _ _ _ _ _ _ _ _ _ _ _ _ _ _ _ _ _ true _ (Kd.C_below HR0_0.out L1.out) HC0_0.out (Kd.C_below HR0_1.out L1.out) HC0_1.out (Kd.C_below HR0_2.out L1.out) HC0_2.out (Kd.C_below HR0_3.out L1.out) HC0_3.out (Kd.C_below HR0_5.out L1.out) HC0_5.out (Kd.C_below HR0_7.out L1.out) HC0_7.out HK1.out).mono ?_; rintro e w2 ⟨rfl, hb2⟩; have B2 := Aside0.mk ((hb2.block _ (Array.getElem?_eq_some_iff.1 B1.out).1).trans B1.out); have L2 : Aside0 (Below w.heap.size w w2) := ⟨below_then L1.out L1.out.size hb2⟩; clear hb2; have v0 := cell_in (j := 0) B2.out rfl; have v1 := cell_in (j := 1) B2.out rfl; have v2 := cell_in (j := 2) B2.out rfl; have v3 := cell_in (j := 3) B2.out rfl; have v4 := cell_in (j := 4) B2.out rfl; have v5 := cell_in (j := 5) B2.out rfl; have v6 := cell_in (j := 6) B2.out rfl; have v7 := cell_in (j := 7) B2.out rfl; have v8 := cell_in (j := 8) B2.out rfl; have v9 := cell_in (j := 9) B2.out rfl)) | ((go_at_call 40; refine (dict_wordsRight.calls _ _ _ _ _ _ _ _ _ _ _ _ _ _ _ _ _ _ _ _ _ _ true _ (Kd.C_below HR0_0.out L2.out) HC0_0.out (Kd.C_below HR0_1.out L2.out) HC0_1.out (Kd.C_below HR0_2.out L2.out) HC0_2.out (Kd.C_below HR0_3.out L2.out) HC0_3.out (Kd.C_below HR0_5.out L2.out) HC0_5.out (Kd.C_below HR0_7.out L2.out) HC0_7.out HK2.out).mono ?_; rintro e w3 ⟨rfl, hb3⟩; have B3 := Aside0.mk ((hb3.block _ (Array.getElem?_eq_some_iff.1 B2.out).1).trans B2.out); have L3 : Aside0 (Below w.heap.size w w3) := ⟨below_then L2.out L2.out.size hb3⟩; clear hb3; have s0 := cell_in (j := 0) B3.out rfl; have s1 := cell_in (j := 1) B3.out rfl; have s2 := cell_in (j := 2) B3.out rfl; have s3 := cell_in (j := 3) B3.out rfl; have s4 := cell_in (j := 4) B3.out rfl; have s5 := cell_in (j := 5) B3.out rfl; have s6 := cell_in (j := 6) B3.out rfl; have s7 := cell_in (j := 7) B3.out rfl; have s8 := cell_in (j := 8) B3.out rfl; have s9 := cell_in (j := 9) B3.out rfl)) | ((go_at_call 41; refine (hasf_int (wildB l0_2.length) 38 _ (enters_of Try.func38 (by kernel_rfl) rfl) _ _ l0_3 _ (Kd.C_below HR0_3.out L3.out) HC0_3.out (fun V x hb => wild_calls w.heap.size A0_2 c0_2 l0_2.length x V ((hb.cell (World.block_lt_of_cell? _ _ s2)).trans s2))).mono ?_; rintro e w4 ⟨rfl, hb4⟩; have L4 : Aside0 (Below w.heap.size w w4) := ⟨below_then L3.out L3.out.size hb4⟩; clear hb4)))
          go_ret
          exact ⟨rfl, L4.out⟩
end Go.Proofs.Ytpalbpakeokimaa.PK
