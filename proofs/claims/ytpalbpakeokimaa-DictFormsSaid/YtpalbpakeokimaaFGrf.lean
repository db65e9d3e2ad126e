/- tinder: a part of the proof, joined and pruned by wip/tools/prune.py out of: Grf -/
import Derived.Test.YtpalbpakeokimaaFGsw
namespace Go.Proofs.Ytpalbpakeokimaa.PK
set_option linter.unusedVariables false
set_option linter.unusedSimpArgs false
open Go.RowKit Go.Proofs.YtpalbpakeokimaaW.PrintWords Go.Proofs.YtpalbpakeokimaaW.PrintLast Go.Proofs.YtpalbpakeokimaaW.PrintMore
def capsR (l0 : List Int) (l1 : List Int) (l2 : List S45) (l3 : List Int) (l5 : List S92) (l7 : List S80) (a4 a6 a8 : Int) (a9 : ByteArray) : Bool := decide (l0.length ≤ 64) && (decide (l1.length ≤ 4096) && (decide (l2.length ≤ 640) && (decide (111 ≤ l2.length) && (decide (l3.length ≤ 2048) && (decide (2 ≤ a4) && (decide (a4 ≤ 36) && decide (a9.size ≤ 1024)))))))
def treesR (l5 : List S92) (a6 : Int) (l7 : List S80) (a8 : Int) : Bool := treeB l5 && (decide (-1 ≤ a6) && (decide (a6 < (l5.length : Int)) && (instsR l7 l5 && (decide (a8 = -1) || aliveR l7 a8))))
noncomputable def wordAt (l2 : List S45) (l5 : List S92) (i : Nat) : Bool := if i < 111 then okW (l2.getD i z45) (primAt i) else wordV9 (l2.length : Int) l5 (l2.getD i z45)
def codeAt (l2 : List S45) (l3 : List Int) (i : Nat) : Bool := decide (-1 ≤ l3.getD i 0) && decide (l3.getD i 0 < (l2.length : Int))
noncomputable def formedR (l0 : List Int) (l1 : List Int) (l2 : List S45) (l3 : List Int) (l5 : List S92) (l7 : List S80) (a4 a6 a8 : Int) (a9 : ByteArray) : Bool := capsR l0 l1 l2 l3 l5 l7 a4 a6 a8 a9 && (treesR l5 a6 l7 a8 && ((List.range l2.length).all (wordAt l2 l5) && (List.range l3.length).all (codeAt l2 l3)))
theorem primsL_len' : primsL.length = 111 := by kernel_rfl
theorem prims36r (W : World) : Calls Try.prog 36 #[] W fun e w' => ∃ (P : Option Addr) (q : Nat), e = .returned (.slice P 111 q) ∧ Kd.C k64 w' P 111 primsL ∧ Below W.heap.size W w' := by
  refine (tinderref09_Prims.calls primsL W rfl).mono ?_
  rintro e w' ⟨v, rfl, hr, hb⟩
  obtain ⟨P, q, hv, _, hC⟩ := Kd.R_reads hr
  exact ⟨P, q, by rw [hv, primsL_len'], by rw [primsL_len'] at hC; exact hC, hb⟩
set_option maxHeartbeats 16000000 in
set_option maxRecDepth 100000 in
theorem ref09_formed (l0 : List Int) (l1 : List Int) (l2 : List S45) (l3 : List Int) (l5 : List S92) (l7 : List S80) (a4 a6 a8 : Int) (a9 : ByteArray) (w : World) (A0 : Option Addr) (c0 : Nat) (hr0 : Kd.C (Kd.int .u32) w A0 l0.length l0) (hc0 : l0.length ≤ c0) (A1 : Option Addr) (c1 : Nat) (hr1 : Kd.C (Kd.int .u8) w A1 l1.length l1) (hc1 : l1.length ≤ c1) (A2 : Option Addr) (c2 : Nat) (hr2 : Kd.C k45 w A2 l2.length l2) (hc2 : l2.length ≤ c2) (A3 : Option Addr) (c3 : Nat) (hr3 : Kd.C (Kd.int .i64) w A3 l3.length l3) (hc3 : l3.length ≤ c3) (A5 : Option Addr) (c5 : Nat) (hr5 : Kd.C k92 w A5 l5.length l5) (hc5 : l5.length ≤ c5) (A7 : Option Addr) (c7 : Nat) (hr7 : Kd.C k80 w A7 l7.length l7) (hc7 : l7.length ≤ c7) (hs : ∀ x ∈ l2, x.f0.size ≤ 9223372036854775807) :
    Calls Try.prog 21 #[.agg #[.slice A0 l0.length c0, .slice A1 l1.length c1, .slice A2 l2.length c2, .slice A3 l3.length c3, .int .u32 a4, .slice A5 l5.length c5, .int .i64 a6, .slice A7 l7.length c7, .int .i64 a8, .string a9]] w fun e w' => e = .returned (.bool (formedR l0 l1 l2 l3 l5 l7 a4 a6 a8 a9)) ∧ Below w.heap.size w w' := by
  have hm2 := hr2.2.1
  have hm3 := hr3.2.1
  clear hr0 hc0
  clear hr1 hc1
  replace hr2 := Aside0.mk hr2
  replace hc2 := Aside0.mk hc2
  replace hr3 := Aside0.mk hr3
  replace hc3 := Aside0.mk hc3
  replace hr5 := Aside0.mk hr5
  replace hc5 := Aside0.mk hc5
  replace hr7 := Aside0.mk hr7
  replace hc7 := Aside0.mk hc7
  have HS := Aside0.mk hs
  clear hs
  have HB := Aside0.mk (below_alloc (Below.refl w.heap.size w) (.cells #[.slice A0 l0.length c0, .slice A1 l1.length c1, .slice A2 l2.length c2, .slice A3 l3.length c3, .int .u32 a4, .slice A5 l5.length c5, .int .i64 a6, .slice A7 l7.length c7, .int .i64 a8, .string a9] 35))
  have BA := Aside0.mk (blk_new w (.cells #[.slice A0 l0.length c0, .slice A1 l1.length c1, .slice A2 l2.length c2, .slice A3 l3.length c3, .int .u32 a4, .slice A5 l5.length c5, .int .i64 a6, .slice A7 l7.length c7, .int .i64 a8, .string a9] 35))
  go_enter Try.func21, Try.ntmps21
  go_upto_region 2 with (go_at_call 36; refine (prims36r _).mono ?_; rintro e wP ⟨P, q, rfl, hP, hbF⟩; have HP := Aside0.mk hP; have B2 := Aside0.mk ((hbF.block _ (blk_lt BA.out)).trans BA.out); have H2 := Aside0.mk (below_then HB.out HB.out.size hbF); clear BA HB hbF; have BA := B2; have HB := H2; clear B2 H2; (try clear ka0 ka1 ka2 ka3 ka4 ka5 ka6 ka7 ka8 ka9); have ka0 := cell_of_row _ _ 0 _ _ _ BA.out; have ka1 := cell_of_row _ _ 1 _ _ _ BA.out; have ka2 := cell_of_row _ _ 2 _ _ _ BA.out; have ka3 := cell_of_row _ _ 3 _ _ _ BA.out; have ka4 := cell_of_row _ _ 4 _ _ _ BA.out; have ka5 := cell_of_row _ _ 5 _ _ _ BA.out; have ka6 := cell_of_row _ _ 6 _ _ _ BA.out; have ka7 := cell_of_row _ _ 7 _ _ _ BA.out; have ka8 := cell_of_row _ _ 8 _ _ _ BA.out; have ka9 := cell_of_row _ _ 9 _ _ _ BA.out; simp only [List.getElem?_toArray, List.getElem?_cons_succ, List.getElem?_cons_zero] at ka0 ka1 ka2 ka3 ka4 ka5 ka6 ka7 ka8 ka9)
  go_cut [52] (fun s52 wx => s52 = .bool (!(capsR l0 l1 l2 l3 l5 l7 a4 a6 a8 a9)) ∧ Aside0 (wx.heap[w.heap.size]? = some (.cells #[.slice A0 l0.length c0, .slice A1 l1.length c1, .slice A2 l2.length c2, .slice A3 l3.length c3, .int .u32 a4, .slice A5 l5.length c5, .int .i64 a6, .slice A7 l7.length c7, .int .i64 a8, .string a9] 35 (0, 0))) ∧ Aside0 (Below w.heap.size w wx) ∧ Aside0 (Kd.C k64 wx P 111 primsL))
  case first =>
    by_cases e0 : 64 < l0.length
    · have HO : Aside0 (capsR l0 l1 l2 l3 l5 l7 a4 a6 a8 a9 = false) := ⟨by unfold capsR; rw [decide_eq_false (show ¬ l0.length ≤ 64 by omega)]; simp⟩
      have t00 : decide ((64 : Int) < (l0.length : Int)) = true := decide_eq_true (by omega)
      have t01 : decide (64 < l0.length) = true := decide_eq_true (by omega)
      clear e0
      go_wp2_with fail
      go_meet
      exact ⟨by rw [HO.out]; rfl, BA, HB, HP⟩
    have t00 : decide ((64 : Int) < (l0.length : Int)) = false := decide_eq_false (by omega)
    have t01 : decide (64 < l0.length) = false := decide_eq_false (by omega)
    by_cases e1 : 4096 < l1.length
    · have HO : Aside0 (capsR l0 l1 l2 l3 l5 l7 a4 a6 a8 a9 = false) := ⟨by unfold capsR; rw [decide_eq_false (show ¬ l1.length ≤ 4096 by omega)]; simp⟩
      have t10 : decide ((4096 : Int) < (l1.length : Int)) = true := decide_eq_true (by omega)
      have t11 : decide (4096 < l1.length) = true := decide_eq_true (by omega)
      clear e0 e1
      go_wp2_with fail
      go_meet
      exact ⟨by rw [HO.out]; rfl, BA, HB, HP⟩
    have t10 : decide ((4096 : Int) < (l1.length : Int)) = false := decide_eq_false (by omega)
    have t11 : decide (4096 < l1.length) = false := decide_eq_false (by omega)
    by_cases e2 : 640 < l2.length
    · have HO : Aside0 (capsR l0 l1 l2 l3 l5 l7 a4 a6 a8 a9 = false) := ⟨by unfold capsR; rw [decide_eq_false (show ¬ l2.length ≤ 640 by omega)]; simp⟩
      have t20 : decide ((640 : Int) < (l2.length : Int)) = true := decide_eq_true (by omega)
      have t21 : decide (640 < l2.length) = true := decide_eq_true (by omega)
      clear e0 e1 e2
      go_wp2_with fail
      go_meet
      exact ⟨by rw [HO.out]; rfl, BA, HB, HP⟩
    have t20 : decide ((640 : Int) < (l2.length : Int)) = false := decide_eq_false (by omega)
    have t21 : decide (640 < l2.length) = false := decide_eq_false (by omega)
    by_cases e3 : l2.length < 111
    · have HO : Aside0 (capsR l0 l1 l2 l3 l5 l7 a4 a6 a8 a9 = false) := ⟨by unfold capsR; rw [decide_eq_false (show ¬ 111 ≤ l2.length by omega)]; simp⟩
      have t30 : decide ((l2.length : Int) < 111) = true := decide_eq_true (by omega)
      have t31 : decide (l2.length < 111) = true := decide_eq_true (by omega)
      clear e0 e1 e2 e3
      go_wp2_with fail
      go_meet
      exact ⟨by rw [HO.out]; rfl, BA, HB, HP⟩
    have t30 : decide ((l2.length : Int) < 111) = false := decide_eq_false (by omega)
    have t31 : decide (l2.length < 111) = false := decide_eq_false (by omega)
    by_cases e4 : 2048 < l3.length
    · have HO : Aside0 (capsR l0 l1 l2 l3 l5 l7 a4 a6 a8 a9 = false) := ⟨by unfold capsR; rw [decide_eq_false (show ¬ l3.length ≤ 2048 by omega)]; simp⟩
      have t40 : decide ((2048 : Int) < (l3.length : Int)) = true := decide_eq_true (by omega)
      have t41 : decide (2048 < l3.length) = true := decide_eq_true (by omega)
      clear e0 e1 e2 e3 e4
      go_wp2_with fail
      go_meet
      exact ⟨by rw [HO.out]; rfl, BA, HB, HP⟩
    have t40 : decide ((2048 : Int) < (l3.length : Int)) = false := decide_eq_false (by omega)
    have t41 : decide (2048 < l3.length) = false := decide_eq_false (by omega)
    by_cases e5 : a4 < 2
    · have HO : Aside0 (capsR l0 l1 l2 l3 l5 l7 a4 a6 a8 a9 = false) := ⟨by unfold capsR; rw [decide_eq_false (show ¬ 2 ≤ a4 by omega)]; simp⟩
      have t50 : decide (a4 < 2) = true := decide_eq_true (by omega)
      clear e0 e1 e2 e3 e4 e5
      go_wp2_with fail
      go_meet
      exact ⟨by rw [HO.out]; rfl, BA, HB, HP⟩
    have t50 : decide (a4 < 2) = false := decide_eq_false (by omega)
    by_cases e6 : 36 < a4
    · have HO : Aside0 (capsR l0 l1 l2 l3 l5 l7 a4 a6 a8 a9 = false) := ⟨by unfold capsR; rw [decide_eq_false (show ¬ a4 ≤ 36 by omega)]; simp⟩
      have t60 : decide (36 < a4) = true := decide_eq_true (by omega)
      clear e0 e1 e2 e3 e4 e5 e6
      go_wp2_with fail
      go_meet
      exact ⟨by rw [HO.out]; rfl, BA, HB, HP⟩
    have t60 : decide (36 < a4) = false := decide_eq_false (by omega)
    by_cases e7 : 1024 < a9.size
    · have HO : Aside0 (capsR l0 l1 l2 l3 l5 l7 a4 a6 a8 a9 = false) := ⟨by unfold capsR; rw [decide_eq_false (show ¬ a9.size ≤ 1024 by omega)]; simp⟩
      have t70 : decide ((1024 : Int) < (a9.size : Int)) = true := decide_eq_true (by omega)
      have t71 : decide (1024 < a9.size) = true := decide_eq_true (by omega)
      clear e0 e1 e2 e3 e4 e5 e6 e7
      go_wp2_with fail
      go_meet
      exact ⟨by rw [HO.out]; rfl, BA, HB, HP⟩
    have t70 : decide ((1024 : Int) < (a9.size : Int)) = false := decide_eq_false (by omega)
    have t71 : decide (1024 < a9.size) = false := decide_eq_false (by omega)
    have HO : Aside0 (capsR l0 l1 l2 l3 l5 l7 a4 a6 a8 a9 = true) := ⟨by unfold capsR; rw [decide_eq_true (show l0.length ≤ 64 by omega), decide_eq_true (show l1.length ≤ 4096 by omega), decide_eq_true (show l2.length ≤ 640 by omega), decide_eq_true (show 111 ≤ l2.length by omega), decide_eq_true (show l3.length ≤ 2048 by omega), decide_eq_true (show 2 ≤ a4 by omega), decide_eq_true (show a4 ≤ 36 by omega), decide_eq_true (show a9.size ≤ 1024 by omega)]; rfl⟩
    clear e0 e1 e2 e3 e4 e5 e6 e7
    go_wp2_with fail
    go_meet
    exact ⟨by rw [HO.out]; rfl, BA, HB, HP⟩
  case rest =>
    clear BA HB HP
    (try clear ka0 ka1 ka2 ka3 ka4 ka5 ka6 ka7 ka8 ka9)
    obtain ⟨rfl, BA, HB, HP⟩ := hcut
    have ka0 := cell_of_row _ _ 0 _ _ _ BA.out; have ka1 := cell_of_row _ _ 1 _ _ _ BA.out; have ka2 := cell_of_row _ _ 2 _ _ _ BA.out; have ka3 := cell_of_row _ _ 3 _ _ _ BA.out; have ka4 := cell_of_row _ _ 4 _ _ _ BA.out; have ka5 := cell_of_row _ _ 5 _ _ _ BA.out; have ka6 := cell_of_row _ _ 6 _ _ _ BA.out; have ka7 := cell_of_row _ _ 7 _ _ _ BA.out; have ka8 := cell_of_row _ _ 8 _ _ _ BA.out; have ka9 := cell_of_row _ _ 9 _ _ _ BA.out; simp only [List.getElem?_toArray, List.getElem?_cons_succ, List.getElem?_cons_zero] at ka0 ka1 ka2 ka3 ka4 ka5 ka6 ka7 ka8 ka9
    cases hcap : capsR l0 l1 l2 l3 l5 l7 a4 a6 a8 a9 with
    | false =>
      have HT : Aside0 (formedR l0 l1 l2 l3 l5 l7 a4 a6 a8 a9 = false) := ⟨by unfold formedR; rw [hcap]; rfl⟩
      clear hcap
      go_wp2
      go_ret
      exact ⟨by rw [HT.out]; rfl, HB.out⟩
    | true =>
      have HCAP := Aside0.mk hcap
      have hl2 : l2.length ≤ 640 ∧ 111 ≤ l2.length ∧ l3.length ≤ 2048 := by
        unfold capsR at hcap
        simp only [Bool.and_eq_true, decide_eq_true_eq] at hcap
        omega
      obtain ⟨hl2a, hl2b, hl3a⟩ := hl2
      clear hcap
      have bad : treesR l5 a6 l7 a8 = false → formedR l0 l1 l2 l3 l5 l7 a4 a6 a8 a9 = false := fun h => by unfold formedR; rw [h, Bool.false_and, Bool.and_false]
      have BAD := Aside0.mk bad
      clear bad
      go_upto_region 4 with fail
      go_cut [90] (fun s90 wx => s90 = .bool (!(treesR l5 a6 l7 a8)) ∧ Aside0 (wx.heap[w.heap.size]? = some (.cells #[.slice A0 l0.length c0, .slice A1 l1.length c1, .slice A2 l2.length c2, .slice A3 l3.length c3, .int .u32 a4, .slice A5 l5.length c5, .int .i64 a6, .slice A7 l7.length c7, .int .i64 a8, .string a9] 35 (0, 0))) ∧ Aside0 (Below w.heap.size w wx) ∧ Aside0 (Kd.C k64 wx P 111 primsL))
      case first =>
        cases hT : treeB l5 with
        | false =>
          have F42 : Aside0 (∀ W, Below w.heap.size w W → Calls Try.prog 42 #[.slice A5 l5.length c5] W fun e w' => e = .returned (.bool false) ∧ Below W.heap.size W w') := ⟨fun W hW => by have h := ref08_formed A5 c5 l5 W (Kd.C_below hr5.out hW) hc5.out; rw [hT] at h; exact h⟩
          have HO : Aside0 (treesR l5 a6 l7 a8 = false) := ⟨by unfold treesR; rw [hT]; rfl⟩
          clear hT
          go_wp2_with (go_at_call 42; refine (F42.out _ HB.out).mono ?_; rintro e wF ⟨rfl, hbF⟩; have P2 := Aside0.mk (Kd.C_below HP.out hbF); have B2 := Aside0.mk ((hbF.block _ (blk_lt BA.out)).trans BA.out); have H2 := Aside0.mk (below_then HB.out HB.out.size hbF); clear BA HB hbF; have BA := B2; have HB := H2; clear B2 H2; (try clear ka0 ka1 ka2 ka3 ka4 ka5 ka6 ka7 ka8 ka9); have ka0 := cell_of_row _ _ 0 _ _ _ BA.out; have ka1 := cell_of_row _ _ 1 _ _ _ BA.out; have ka2 := cell_of_row _ _ 2 _ _ _ BA.out; have ka3 := cell_of_row _ _ 3 _ _ _ BA.out; have ka4 := cell_of_row _ _ 4 _ _ _ BA.out; have ka5 := cell_of_row _ _ 5 _ _ _ BA.out; have ka6 := cell_of_row _ _ 6 _ _ _ BA.out; have ka7 := cell_of_row _ _ 7 _ _ _ BA.out; have ka8 := cell_of_row _ _ 8 _ _ _ BA.out; have ka9 := cell_of_row _ _ 9 _ _ _ BA.out; simp only [List.getElem?_toArray, List.getElem?_cons_succ, List.getElem?_cons_zero] at ka0 ka1 ka2 ka3 ka4 ka5 ka6 ka7 ka8 ka9; clear HP; have HP := P2; clear P2)
          go_meet
          exact ⟨by rw [HO.out]; rfl, BA, HB, HP⟩
        | true =>
          have F42 : Aside0 (∀ W, Below w.heap.size w W → Calls Try.prog 42 #[.slice A5 l5.length c5] W fun e w' => e = .returned (.bool true) ∧ Below W.heap.size W w') := ⟨fun W hW => by have h := ref08_formed A5 c5 l5 W (Kd.C_below hr5.out hW) hc5.out; rw [hT] at h; exact h⟩
          by_cases g0 : a6 < -1
          · have d0 : decide (a6 < -1) = true := decide_eq_true g0
            have HO : Aside0 (treesR l5 a6 l7 a8 = false) := ⟨by unfold treesR; rw [decide_eq_false (show ¬ -1 ≤ a6 by omega), Bool.false_and, Bool.and_false]⟩
            clear hT g0
            go_wp2_with (go_at_call 42; refine (F42.out _ HB.out).mono ?_; rintro e wF ⟨rfl, hbF⟩; have P2 := Aside0.mk (Kd.C_below HP.out hbF); have B2 := Aside0.mk ((hbF.block _ (blk_lt BA.out)).trans BA.out); have H2 := Aside0.mk (below_then HB.out HB.out.size hbF); clear BA HB hbF; have BA := B2; have HB := H2; clear B2 H2; (try clear ka0 ka1 ka2 ka3 ka4 ka5 ka6 ka7 ka8 ka9); have ka0 := cell_of_row _ _ 0 _ _ _ BA.out; have ka1 := cell_of_row _ _ 1 _ _ _ BA.out; have ka2 := cell_of_row _ _ 2 _ _ _ BA.out; have ka3 := cell_of_row _ _ 3 _ _ _ BA.out; have ka4 := cell_of_row _ _ 4 _ _ _ BA.out; have ka5 := cell_of_row _ _ 5 _ _ _ BA.out; have ka6 := cell_of_row _ _ 6 _ _ _ BA.out; have ka7 := cell_of_row _ _ 7 _ _ _ BA.out; have ka8 := cell_of_row _ _ 8 _ _ _ BA.out; have ka9 := cell_of_row _ _ 9 _ _ _ BA.out; simp only [List.getElem?_toArray, List.getElem?_cons_succ, List.getElem?_cons_zero] at ka0 ka1 ka2 ka3 ka4 ka5 ka6 ka7 ka8 ka9; clear HP; have HP := P2; clear P2)
            go_meet
            exact ⟨by rw [HO.out]; rfl, BA, HB, HP⟩
          have d0 : decide (a6 < -1) = false := decide_eq_false g0
          by_cases g1 : (l5.length : Int) ≤ a6
          · have d1 : decide ((l5.length : Int) ≤ a6) = true := decide_eq_true g1
            have HO : Aside0 (treesR l5 a6 l7 a8 = false) := ⟨by unfold treesR; rw [decide_eq_false (show ¬ a6 < (l5.length : Int) by omega), Bool.false_and, Bool.and_false, Bool.and_false]⟩
            clear hT g0 g1
            go_wp2_with (go_at_call 42; refine (F42.out _ HB.out).mono ?_; rintro e wF ⟨rfl, hbF⟩; have P2 := Aside0.mk (Kd.C_below HP.out hbF); have B2 := Aside0.mk ((hbF.block _ (blk_lt BA.out)).trans BA.out); have H2 := Aside0.mk (below_then HB.out HB.out.size hbF); clear BA HB hbF; have BA := B2; have HB := H2; clear B2 H2; (try clear ka0 ka1 ka2 ka3 ka4 ka5 ka6 ka7 ka8 ka9); have ka0 := cell_of_row _ _ 0 _ _ _ BA.out; have ka1 := cell_of_row _ _ 1 _ _ _ BA.out; have ka2 := cell_of_row _ _ 2 _ _ _ BA.out; have ka3 := cell_of_row _ _ 3 _ _ _ BA.out; have ka4 := cell_of_row _ _ 4 _ _ _ BA.out; have ka5 := cell_of_row _ _ 5 _ _ _ BA.out; have ka6 := cell_of_row _ _ 6 _ _ _ BA.out; have ka7 := cell_of_row _ _ 7 _ _ _ BA.out; have ka8 := cell_of_row _ _ 8 _ _ _ BA.out; have ka9 := cell_of_row _ _ 9 _ _ _ BA.out; simp only [List.getElem?_toArray, List.getElem?_cons_succ, List.getElem?_cons_zero] at ka0 ka1 ka2 ka3 ka4 ka5 ka6 ka7 ka8 ka9; clear HP; have HP := P2; clear P2)
            go_meet
            exact ⟨by rw [HO.out]; rfl, BA, HB, HP⟩
          have d1 : decide ((l5.length : Int) ≤ a6) = false := decide_eq_false g1
          cases hI : instsR l7 l5 with
          | false =>
            have F43 : Aside0 (∀ W, Below w.heap.size w W → Calls Try.prog 43 #[.slice A7 l7.length c7, .slice A5 l5.length c5] W fun e w' => e = .returned (.bool false) ∧ Below W.heap.size W w') := ⟨fun W hW => by have h := insts43 A7 c7 l7 A5 c5 l5 W (Kd.C_below hr7.out hW) hc7.out (Kd.C_below hr5.out hW) hc5.out; rw [hI] at h; exact h⟩
            have HO : Aside0 (treesR l5 a6 l7 a8 = false) := ⟨by unfold treesR; rw [hI]; simp⟩
            clear hT hI g0 g1
            go_wp2_with (first | (go_at_call 42; refine (F42.out _ HB.out).mono ?_; rintro e wF ⟨rfl, hbF⟩; have P2 := Aside0.mk (Kd.C_below HP.out hbF); have B2 := Aside0.mk ((hbF.block _ (blk_lt BA.out)).trans BA.out); have H2 := Aside0.mk (below_then HB.out HB.out.size hbF); clear BA HB hbF; have BA := B2; have HB := H2; clear B2 H2; (try clear ka0 ka1 ka2 ka3 ka4 ka5 ka6 ka7 ka8 ka9); have ka0 := cell_of_row _ _ 0 _ _ _ BA.out; have ka1 := cell_of_row _ _ 1 _ _ _ BA.out; have ka2 := cell_of_row _ _ 2 _ _ _ BA.out; have ka3 := cell_of_row _ _ 3 _ _ _ BA.out; have ka4 := cell_of_row _ _ 4 _ _ _ BA.out; have ka5 := cell_of_row _ _ 5 _ _ _ BA.out; have ka6 := cell_of_row _ _ 6 _ _ _ BA.out; have ka7 := cell_of_row _ _ 7 _ _ _ BA.out; have ka8 := cell_of_row _ _ 8 _ _ _ BA.out; have ka9 := cell_of_row _ _ 9 _ _ _ BA.out; simp only [List.getElem?_toArray, List.getElem?_cons_succ, List.getElem?_cons_zero] at ka0 ka1 ka2 ka3 ka4 ka5 ka6 ka7 ka8 ka9; clear HP; have HP := P2; clear P2) | (go_at_call 43; refine (F43.out _ HB.out).mono ?_; rintro e wF ⟨rfl, hbF⟩; have P2 := Aside0.mk (Kd.C_below HP.out hbF); have B2 := Aside0.mk ((hbF.block _ (blk_lt BA.out)).trans BA.out); have H2 := Aside0.mk (below_then HB.out HB.out.size hbF); clear BA HB hbF; have BA := B2; have HB := H2; clear B2 H2; (try clear ka0 ka1 ka2 ka3 ka4 ka5 ka6 ka7 ka8 ka9); have ka0 := cell_of_row _ _ 0 _ _ _ BA.out; have ka1 := cell_of_row _ _ 1 _ _ _ BA.out; have ka2 := cell_of_row _ _ 2 _ _ _ BA.out; have ka3 := cell_of_row _ _ 3 _ _ _ BA.out; have ka4 := cell_of_row _ _ 4 _ _ _ BA.out; have ka5 := cell_of_row _ _ 5 _ _ _ BA.out; have ka6 := cell_of_row _ _ 6 _ _ _ BA.out; have ka7 := cell_of_row _ _ 7 _ _ _ BA.out; have ka8 := cell_of_row _ _ 8 _ _ _ BA.out; have ka9 := cell_of_row _ _ 9 _ _ _ BA.out; simp only [List.getElem?_toArray, List.getElem?_cons_succ, List.getElem?_cons_zero] at ka0 ka1 ka2 ka3 ka4 ka5 ka6 ka7 ka8 ka9; clear HP; have HP := P2; clear P2))
            go_meet
            exact ⟨by rw [HO.out]; rfl, BA, HB, HP⟩
          | true =>
            have F43 : Aside0 (∀ W, Below w.heap.size w W → Calls Try.prog 43 #[.slice A7 l7.length c7, .slice A5 l5.length c5] W fun e w' => e = .returned (.bool true) ∧ Below W.heap.size W w') := ⟨fun W hW => by have h := insts43 A7 c7 l7 A5 c5 l5 W (Kd.C_below hr7.out hW) hc7.out (Kd.C_below hr5.out hW) hc5.out; rw [hI] at h; exact h⟩
            by_cases g2 : a8 = -1
            · have d2 : (a8 == (-1)) = true := beq_iff_eq.2 g2
              have d2' : (a8 != (-1)) = false := by rw [bne, d2]; rfl
              have HO : Aside0 (treesR l5 a6 l7 a8 = true) := ⟨by unfold treesR; rw [hT, hI, decide_eq_true (show -1 ≤ a6 by omega), decide_eq_true (show a6 < (l5.length : Int) by omega), decide_eq_true g2]; rfl⟩
              clear hT hI g0 g1 g2
              go_wp2_with (first | (go_at_call 42; refine (F42.out _ HB.out).mono ?_; rintro e wF ⟨rfl, hbF⟩; have P2 := Aside0.mk (Kd.C_below HP.out hbF); have B2 := Aside0.mk ((hbF.block _ (blk_lt BA.out)).trans BA.out); have H2 := Aside0.mk (below_then HB.out HB.out.size hbF); clear BA HB hbF; have BA := B2; have HB := H2; clear B2 H2; (try clear ka0 ka1 ka2 ka3 ka4 ka5 ka6 ka7 ka8 ka9); have ka0 := cell_of_row _ _ 0 _ _ _ BA.out; have ka1 := cell_of_row _ _ 1 _ _ _ BA.out; have ka2 := cell_of_row _ _ 2 _ _ _ BA.out; have ka3 := cell_of_row _ _ 3 _ _ _ BA.out; have ka4 := cell_of_row _ _ 4 _ _ _ BA.out; have ka5 := cell_of_row _ _ 5 _ _ _ BA.out; have ka6 := cell_of_row _ _ 6 _ _ _ BA.out; have ka7 := cell_of_row _ _ 7 _ _ _ BA.out; have ka8 := cell_of_row _ _ 8 _ _ _ BA.out; have ka9 := cell_of_row _ _ 9 _ _ _ BA.out; simp only [List.getElem?_toArray, List.getElem?_cons_succ, List.getElem?_cons_zero] at ka0 ka1 ka2 ka3 ka4 ka5 ka6 ka7 ka8 ka9; clear HP; have HP := P2; clear P2) | (go_at_call 43; refine (F43.out _ HB.out).mono ?_; rintro e wF ⟨rfl, hbF⟩; have P2 := Aside0.mk (Kd.C_below HP.out hbF); have B2 := Aside0.mk ((hbF.block _ (blk_lt BA.out)).trans BA.out); have H2 := Aside0.mk (below_then HB.out HB.out.size hbF); clear BA HB hbF; have BA := B2; have HB := H2; clear B2 H2; (try clear ka0 ka1 ka2 ka3 ka4 ka5 ka6 ka7 ka8 ka9); have ka0 := cell_of_row _ _ 0 _ _ _ BA.out; have ka1 := cell_of_row _ _ 1 _ _ _ BA.out; have ka2 := cell_of_row _ _ 2 _ _ _ BA.out; have ka3 := cell_of_row _ _ 3 _ _ _ BA.out; have ka4 := cell_of_row _ _ 4 _ _ _ BA.out; have ka5 := cell_of_row _ _ 5 _ _ _ BA.out; have ka6 := cell_of_row _ _ 6 _ _ _ BA.out; have ka7 := cell_of_row _ _ 7 _ _ _ BA.out; have ka8 := cell_of_row _ _ 8 _ _ _ BA.out; have ka9 := cell_of_row _ _ 9 _ _ _ BA.out; simp only [List.getElem?_toArray, List.getElem?_cons_succ, List.getElem?_cons_zero] at ka0 ka1 ka2 ka3 ka4 ka5 ka6 ka7 ka8 ka9; clear HP; have HP := P2; clear P2))
              go_meet
              exact ⟨by rw [HO.out]; rfl, BA, HB, HP⟩
            · have d2 : (a8 == (-1)) = false := beq_eq_false_iff_ne.2 g2
              have d2' : (a8 != (-1)) = true := by rw [bne, d2]; rfl
              cases hA : aliveR l7 a8 with
              | false =>
                have F44 : Aside0 (∀ W, Below w.heap.size w W → Calls Try.prog 44 #[.slice A7 l7.length c7, .int .i64 a8] W fun e w' => e = .returned (.bool false) ∧ Below W.heap.size W w') := ⟨fun W hW => alive44 l7 a8 false hA A7 c7 W (Kd.C_below hr7.out hW) hc7.out⟩
                have HO : Aside0 (treesR l5 a6 l7 a8 = false) := ⟨by unfold treesR; rw [hA, decide_eq_false g2]; simp⟩
                clear hT hI hA g0 g1 g2
                go_wp2_with (first | (go_at_call 42; refine (F42.out _ HB.out).mono ?_; rintro e wF ⟨rfl, hbF⟩; have P2 := Aside0.mk (Kd.C_below HP.out hbF); have B2 := Aside0.mk ((hbF.block _ (blk_lt BA.out)).trans BA.out); have H2 := Aside0.mk (below_then HB.out HB.out.size hbF); clear BA HB hbF; have BA := B2; have HB := H2; clear B2 H2; (try clear ka0 ka1 ka2 ka3 ka4 ka5 ka6 ka7 ka8 ka9); have ka0 := cell_of_row _ _ 0 _ _ _ BA.out; have ka1 := cell_of_row _ _ 1 _ _ _ BA.out; have ka2 := cell_of_row _ _ 2 _ _ _ BA.out; have ka3 := cell_of_row _ _ 3 _ _ _ BA.out; have ka4 := cell_of_row _ _ 4 _ _ _ BA.out; have ka5 := cell_of_row _ _ 5 _ _ _ BA.out; have ka6 := cell_of_row _ _ 6 _ _ _ BA.out; have ka7 := cell_of_row _ _ 7 _ _ _ BA.out; have ka8 := cell_of_row _ _ 8 _ _ _ BA.out; have ka9 := cell_of_row _ _ 9 _ _ _ BA.out; simp only [List.getElem?_toArray, List.getElem?_cons_succ, List.getElem?_cons_zero] at ka0 ka1 ka2 ka3 ka4 ka5 ka6 ka7 ka8 ka9; clear HP; have HP := P2; clear P2) | (go_at_call 43; refine (F43.out _ HB.out).mono ?_; rintro e wF ⟨rfl, hbF⟩; have P2 := Aside0.mk (Kd.C_below HP.out hbF); have B2 := Aside0.mk ((hbF.block _ (blk_lt BA.out)).trans BA.out); have H2 := Aside0.mk (below_then HB.out HB.out.size hbF); clear BA HB hbF; have BA := B2; have HB := H2; clear B2 H2; (try clear ka0 ka1 ka2 ka3 ka4 ka5 ka6 ka7 ka8 ka9); have ka0 := cell_of_row _ _ 0 _ _ _ BA.out; have ka1 := cell_of_row _ _ 1 _ _ _ BA.out; have ka2 := cell_of_row _ _ 2 _ _ _ BA.out; have ka3 := cell_of_row _ _ 3 _ _ _ BA.out; have ka4 := cell_of_row _ _ 4 _ _ _ BA.out; have ka5 := cell_of_row _ _ 5 _ _ _ BA.out; have ka6 := cell_of_row _ _ 6 _ _ _ BA.out; have ka7 := cell_of_row _ _ 7 _ _ _ BA.out; have ka8 := cell_of_row _ _ 8 _ _ _ BA.out; have ka9 := cell_of_row _ _ 9 _ _ _ BA.out; simp only [List.getElem?_toArray, List.getElem?_cons_succ, List.getElem?_cons_zero] at ka0 ka1 ka2 ka3 ka4 ka5 ka6 ka7 ka8 ka9; clear HP; have HP := P2; clear P2) | (go_at_call 44; refine (F44.out _ HB.out).mono ?_; rintro e wF ⟨rfl, hbF⟩; have P2 := Aside0.mk (Kd.C_below HP.out hbF); have B2 := Aside0.mk ((hbF.block _ (blk_lt BA.out)).trans BA.out); have H2 := Aside0.mk (below_then HB.out HB.out.size hbF); clear BA HB hbF; have BA := B2; have HB := H2; clear B2 H2; (try clear ka0 ka1 ka2 ka3 ka4 ka5 ka6 ka7 ka8 ka9); have ka0 := cell_of_row _ _ 0 _ _ _ BA.out; have ka1 := cell_of_row _ _ 1 _ _ _ BA.out; have ka2 := cell_of_row _ _ 2 _ _ _ BA.out; have ka3 := cell_of_row _ _ 3 _ _ _ BA.out; have ka4 := cell_of_row _ _ 4 _ _ _ BA.out; have ka5 := cell_of_row _ _ 5 _ _ _ BA.out; have ka6 := cell_of_row _ _ 6 _ _ _ BA.out; have ka7 := cell_of_row _ _ 7 _ _ _ BA.out; have ka8 := cell_of_row _ _ 8 _ _ _ BA.out; have ka9 := cell_of_row _ _ 9 _ _ _ BA.out; simp only [List.getElem?_toArray, List.getElem?_cons_succ, List.getElem?_cons_zero] at ka0 ka1 ka2 ka3 ka4 ka5 ka6 ka7 ka8 ka9; clear HP; have HP := P2; clear P2))
                go_meet
                exact ⟨by rw [HO.out]; rfl, BA, HB, HP⟩
              | true =>
                have F44 : Aside0 (∀ W, Below w.heap.size w W → Calls Try.prog 44 #[.slice A7 l7.length c7, .int .i64 a8] W fun e w' => e = .returned (.bool true) ∧ Below W.heap.size W w') := ⟨fun W hW => alive44 l7 a8 true hA A7 c7 W (Kd.C_below hr7.out hW) hc7.out⟩
                have HO : Aside0 (treesR l5 a6 l7 a8 = true) := ⟨by unfold treesR; rw [hT, hI, hA, decide_eq_true (show -1 ≤ a6 by omega), decide_eq_true (show a6 < (l5.length : Int) by omega)]; simp⟩
                clear hT hI hA g0 g1 g2
                go_wp2_with (first | (go_at_call 42; refine (F42.out _ HB.out).mono ?_; rintro e wF ⟨rfl, hbF⟩; have P2 := Aside0.mk (Kd.C_below HP.out hbF); have B2 := Aside0.mk ((hbF.block _ (blk_lt BA.out)).trans BA.out); have H2 := Aside0.mk (below_then HB.out HB.out.size hbF); clear BA HB hbF; have BA := B2; have HB := H2; clear B2 H2; (try clear ka0 ka1 ka2 ka3 ka4 ka5 ka6 ka7 ka8 ka9); have ka0 := cell_of_row _ _ 0 _ _ _ BA.out; have ka1 := cell_of_row _ _ 1 _ _ _ BA.out; have ka2 := cell_of_row _ _ 2 _ _ _ BA.out; have ka3 := cell_of_row _ _ 3 _ _ _ BA.out; have ka4 := cell_of_row _ _ 4 _ _ _ BA.out; have ka5 := cell_of_row _ _ 5 _ _ _ BA.out; have ka6 := cell_of_row _ _ 6 _ _ _ BA.out; have ka7 := cell_of_row _ _ 7 _ _ _ BA.out; have ka8 := cell_of_row _ _ 8 _ _ _ BA.out; have ka9 := cell_of_row _ _ 9 _ _ _ BA.out; simp only [List.getElem?_toArray, List.getElem?_cons_succ, List.getElem?_cons_zero] at ka0 ka1 ka2 ka3 ka4 ka5 ka6 ka7 ka8 ka9; clear HP; have HP := P2; clear P2) | (go_at_call 43; refine (F43.out _ HB.out).mono ?_; rintro e wF ⟨rfl, hbF⟩; have P2 := Aside0.mk (Kd.C_below HP.out hbF); have B2 := Aside0.mk ((hbF.block _ (blk_lt BA.out)).trans BA.out); have H2 := Aside0.mk (below_then HB.out HB.out.size hbF); clear BA HB hbF; have BA := B2; have HB := H2; clear B2 H2; (try clear ka0 ka1 ka2 ka3 ka4 ka5 ka6 ka7 ka8 ka9); have ka0 := cell_of_row _ _ 0 _ _ _ BA.out; have ka1 := cell_of_row _ _ 1 _ _ _ BA.out; have ka2 := cell_of_row _ _ 2 _ _ _ BA.out; have ka3 := cell_of_row _ _ 3 _ _ _ BA.out; have ka4 := cell_of_row _ _ 4 _ _ _ BA.out; have ka5 := cell_of_row _ _ 5 _ _ _ BA.out; have ka6 := cell_of_row _ _ 6 _ _ _ BA.out; have ka7 := cell_of_row _ _ 7 _ _ _ BA.out; have ka8 := cell_of_row _ _ 8 _ _ _ BA.out; have ka9 := cell_of_row _ _ 9 _ _ _ BA.out; simp only [List.getElem?_toArray, List.getElem?_cons_succ, List.getElem?_cons_zero] at ka0 ka1 ka2 ka3 ka4 ka5 ka6 ka7 ka8 ka9; clear HP; have HP := P2; clear P2) | (go_at_call 44; refine (F44.out _ HB.out).mono ?_; rintro e wF ⟨rfl, hbF⟩; have P2 := Aside0.mk (Kd.C_below HP.out hbF); have B2 := Aside0.mk ((hbF.block _ (blk_lt BA.out)).trans BA.out); have H2 := Aside0.mk (below_then HB.out HB.out.size hbF); clear BA HB hbF; have BA := B2; have HB := H2; clear B2 H2; (try clear ka0 ka1 ka2 ka3 ka4 ka5 ka6 ka7 ka8 ka9); have ka0 := cell_of_row _ _ 0 _ _ _ BA.out; have ka1 := cell_of_row _ _ 1 _ _ _ BA.out; have ka2 := cell_of_row _ _ 2 _ _ _ BA.out; have ka3 := cell_of_row _ _ 3 _ _ _ BA.out; have ka4 := cell_of_row _ _ 4 _ _ _ BA.out; have ka5 := cell_of_row _ _ 5 _ _ _ BA.out; have ka6 := cell_of_row _ _ 6 _ _ _ BA.out; have ka7 := cell_of_row _ _ 7 _ _ _ BA.out; have ka8 := cell_of_row _ _ 8 _ _ _ BA.out; have ka9 := cell_of_row _ _ 9 _ _ _ BA.out; simp only [List.getElem?_toArray, List.getElem?_cons_succ, List.getElem?_cons_zero] at ka0 ka1 ka2 ka3 ka4 ka5 ka6 ka7 ka8 ka9; clear HP; have HP := P2; clear P2))
                go_meet
                exact ⟨by rw [HO.out]; rfl, BA, HB, HP⟩
      case rest =>
        clear BA HB HP
        (try clear ka0 ka1 ka2 ka3 ka4 ka5 ka6 ka7 ka8 ka9)
        obtain ⟨rfl, BA, HB, HP⟩ := hcut
        have ka0 := cell_of_row _ _ 0 _ _ _ BA.out; have ka1 := cell_of_row _ _ 1 _ _ _ BA.out; have ka2 := cell_of_row _ _ 2 _ _ _ BA.out; have ka3 := cell_of_row _ _ 3 _ _ _ BA.out; have ka4 := cell_of_row _ _ 4 _ _ _ BA.out; have ka5 := cell_of_row _ _ 5 _ _ _ BA.out; have ka6 := cell_of_row _ _ 6 _ _ _ BA.out; have ka7 := cell_of_row _ _ 7 _ _ _ BA.out; have ka8 := cell_of_row _ _ 8 _ _ _ BA.out; have ka9 := cell_of_row _ _ 9 _ _ _ BA.out; simp only [List.getElem?_toArray, List.getElem?_cons_succ, List.getElem?_cons_zero] at ka0 ka1 ka2 ka3 ka4 ka5 ka6 ka7 ka8 ka9
        cases htr : treesR l5 a6 l7 a8 with
        | false =>
          have HT := Aside0.mk (BAD.out htr)
          clear htr
          go_wp2
          go_ret
          exact ⟨by rw [HT.out]; rfl, HB.out⟩
        | true =>
          have HTR := Aside0.mk htr
          clear htr BAD
          have bad1 : ∀ i, i < l2.length → wordAt l2 l5 i = false → formedR l0 l1 l2 l3 l5 l7 a4 a6 a8 a9 = false := fun i hi h => by unfold formedR; rw [range_no hi h, Bool.false_and, Bool.and_false, Bool.and_false]
          have BAD1 := Aside0.mk bad1
          have bad2 : ∀ i, i < l3.length → codeAt l2 l3 i = false → formedR l0 l1 l2 l3 l5 l7 a4 a6 a8 a9 = false := fun i hi h => by unfold formedR; rw [range_no hi h, Bool.and_false, Bool.and_false, Bool.and_false]
          have BAD2 := Aside0.mk bad2
          clear bad1 bad2
          go_wp2
          go_loopg [4] l2.length (fun gg s4 wr => ∃ i : Nat, i ≤ l2.length ∧ l2.length - i ≤ gg ∧ s4 = .int .i64 i ∧ Aside0 ((List.range i).all (wordAt l2 l5) = true) ∧ Aside0 (wr.heap[w.heap.size]? = some (.cells #[.slice A0 l0.length c0, .slice A1 l1.length c1, .slice A2 l2.length c2, .slice A3 l3.length c3, .int .u32 a4, .slice A5 l5.length c5, .int .i64 a6, .slice A7 l7.length c7, .int .i64 a8, .string a9] 35 (0, 0))) ∧ Aside0 (Below w.heap.size w wr) ∧ Aside0 (Kd.C k64 wr P 111 primsL))
          case atStart => exact ⟨0, by omega, by omega, rfl, ⟨rfl⟩, BA, HB, HP⟩
          case round =>
            clear BA HB HP
            (try clear ka0 ka1 ka2 ka3 ka4 ka5 ka6 ka7 ka8 ka9)
            obtain ⟨i, hle, hgg, rfl, OK, BA, HB, HP⟩ := hrel
            have ka0 := cell_of_row _ _ 0 _ _ _ BA.out; have ka1 := cell_of_row _ _ 1 _ _ _ BA.out; have ka2 := cell_of_row _ _ 2 _ _ _ BA.out; have ka3 := cell_of_row _ _ 3 _ _ _ BA.out; have ka4 := cell_of_row _ _ 4 _ _ _ BA.out; have ka5 := cell_of_row _ _ 5 _ _ _ BA.out; have ka6 := cell_of_row _ _ 6 _ _ _ BA.out; have ka7 := cell_of_row _ _ 7 _ _ _ BA.out; have ka8 := cell_of_row _ _ 8 _ _ _ BA.out; have ka9 := cell_of_row _ _ 9 _ _ _ BA.out; simp only [List.getElem?_toArray, List.getElem?_cons_succ, List.getElem?_cons_zero] at ka0 ka1 ka2 ka3 ka4 ka5 ka6 ka7 ka8 ka9
            by_cases hlt : i < l2.length
            · have hltz : (i : Int) < (l2.length : Int) := by omega
              have hi0 : (0 : Int) ≤ (i : Int) := by omega
              obtain ⟨ad, A4, c4, e, z0, z1, z2, z3, z4, i4, g4⟩ := at_T45 hr2.out (i : Int) hi0 hltz
              cases e
              rw [Int.toNat_natCast] at z0 z1 z2 z3 z4
              have hgd : l2.getD i z45 = rd_T45 l2 (i : Int) := rfl
              have hmem : rd_T45 l2 (i : Int) ∈ l2 := by
                unfold rd_T45
                rw [List.getD_eq_getElem?_getD, List.getElem?_eq_getElem (show ((i : Int)).toNat < l2.length by omega)]
                exact List.getElem_mem _
              have HSX := Aside0.mk (HS.out _ hmem)
              clear hmem
              obtain ⟨x, hx⟩ : ∃ x, x = rd_T45 l2 (i : Int) := ⟨_, rfl⟩
              rw [← hx] at z0 z1 z2 z3 z4 i4 g4 hgd HSX
              clear hx
              have KA := Aside0.mk (k45_mk w x i4 g4)
              clear i4 g4
              replace z0 := (HB.out.cell (World.block_lt_of_cell? w _ z0)).trans z0
              replace z1 := (HB.out.cell (World.block_lt_of_cell? w _ z1)).trans z1
              replace z2 := (HB.out.cell (World.block_lt_of_cell? w _ z2)).trans z2
              replace z3 := (HB.out.cell (World.block_lt_of_cell? w _ z3)).trans z3
              replace z4 := (HB.out.cell (World.block_lt_of_cell? w _ z4)).trans z4
              have p0 := eq_true hi0
              have p1 := eq_true hltz
              by_cases h111 : i < 111
              · have h111z : (i : Int) < 111 := by omega
                obtain ⟨pd, e, y0, y1⟩ := at_T64 HP.out (i : Int) hi0 h111z
                cases e
                rw [Int.toNat_natCast] at y0 y1
                have hgp : primAt i = rd_T64 primsL (i : Int) := rfl
                obtain ⟨y, hy⟩ : ∃ y, y = rd_T64 primsL (i : Int) := ⟨_, rfl⟩
                rw [← hy] at y0 y1 hgp
                clear hy
                have HX : Aside0 (wordAt l2 l5 i = okW x y) := ⟨by unfold wordAt; rw [if_pos h111, hgd, hgp]⟩
                clear hgp hgd
                have p2 := eq_true h111z
                cases hv : okW x y with
                | false =>
                  have HV := Aside0.mk hv
                  have HT := Aside0.mk (BAD1.out i hlt (HX.out.trans hv))
                  clear OK hv
                  go_wp2
                  refine start_ (n := 19) (S := fun w' => w'.cell? ⟨w.heap.size, 2, none⟩ = some (.slice (some ad) l2.length c2) ∧ w'.cell? (ad.add (i * 5)) = some (.string x.f0) ∧ w'.cell? ⟨(ad.add (i * 5)).block, (ad.add (i * 5)).off + 1, none⟩ = some (.int .i64 x.f1) ∧ w'.cell? ⟨(ad.add (i * 5)).block, (ad.add (i * 5)).off + 2, none⟩ = some (.int .i64 x.f2) ∧ w'.cell? ⟨(ad.add (i * 5)).block, (ad.add (i * 5)).off + 3, none⟩ = some (.int .u32 x.f3) ∧ w'.cell? ⟨(ad.add (i * 5)).block, (ad.add (i * 5)).off + 4, none⟩ = some (.slice A4 x.f4.length c4) ∧ w'.cell? (pd.add (i * 2)) = some (.string y.f0) ∧ w'.cell? ⟨(pd.add (i * 2)).block, (pd.add (i * 2)).off + 1, none⟩ = some (.int .i64 y.f1)) (ds := []) #[false, false, false, false, false, false, false, false, false, false, false, false, false, false, false, false, false, false, false] (by kernel_rfl) rfl rfl ⟨ka2, z0, z1, z2, z3, z4, y0, y1⟩ (fun hHeld => ?_)
                  refine pure_ (i := 0) (N := some 102) (v := ?_) (a' := ?_) #[true, false, false, false, false, false, false, false, false, false, false, false, false, false, false, false, false, false, false] rfl rfl (by kernel_rfl) (fun _ _ _ h => h) (Or.inl ⟨by rfl, ?_⟩) ?_ ?_
                  rotate_left
                  · intro w'
                    go_simp
                    with_reducible rfl
                  rotate_left
                  · simp only [Act.put, List.setIfInBounds_toArray, List.set_cons_zero, List.set_cons_succ]
                    rfl
                  refine pure_ (i := 2) (N := some 104) (v := ?_) (a' := ?_) #[true, false, true, false, false, false, false, false, false, false, false, false, false, false, false, false, false, false, false] rfl rfl (by kernel_rfl) (fun _ _ _ h => h) (Or.inl ⟨by rfl, ?_⟩) ?_ ?_
                  rotate_left
                  · intro w'
                    go_simp
                    with_reducible rfl
                  rotate_left
                  · simp only [Act.put, List.setIfInBounds_toArray, List.set_cons_zero, List.set_cons_succ]
                    rfl
                  refine pure_ (i := 5) (N := some 107) (v := ?_) (a' := ?_) #[true, false, true, false, false, true, false, false, false, false, false, false, false, false, false, false, false, false, false] rfl rfl (by kernel_rfl) (fun _ _ _ h => h) (Or.inl ⟨by rfl, ?_⟩) ?_ ?_
                  rotate_left
                  · intro w'
                    go_simp
                    with_reducible rfl
                  rotate_left
                  · simp only [Act.put, List.setIfInBounds_toArray, List.set_cons_zero, List.set_cons_succ]
                    rfl
                  refine pure_ (i := 6) (N := some 108) (v := ?_) (a' := ?_) #[true, false, true, false, false, true, true, false, false, false, false, false, false, false, false, false, false, false, false] rfl rfl (by kernel_rfl) (fun _ _ _ h => h) (Or.inl ⟨by rfl, ?_⟩) ?_ ?_
                  rotate_left
                  · intro w'
                    go_simp
                    with_reducible rfl
                  rotate_left
                  · simp only [Act.put, List.setIfInBounds_toArray, List.set_cons_zero, List.set_cons_succ]
                    rfl
                  refine pure_ (i := 7) (N := some 109) (v := ?_) (a' := ?_) #[true, false, true, false, false, true, true, true, false, false, false, false, false, false, false, false, false, false, false] rfl rfl (by kernel_rfl) (fun _ _ _ h => h) (Or.inl ⟨by rfl, ?_⟩) ?_ ?_
                  rotate_left
                  · intro w'
                    go_simp
                    with_reducible rfl
                  rotate_left
                  · simp only [Act.put, List.setIfInBounds_toArray, List.set_cons_zero, List.set_cons_succ]
                    rfl
                  refine pure_ (i := 8) (N := some 110) (v := ?_) (a' := ?_) #[true, false, true, false, false, true, true, true, true, false, false, false, false, false, false, false, false, false, false] rfl rfl (by kernel_rfl) (fun _ _ _ h => h) (Or.inl ⟨by rfl, ?_⟩) ?_ ?_
                  rotate_left
                  · intro w'
                    go_simp
                    with_reducible rfl
                  rotate_left
                  · simp only [Act.put, List.setIfInBounds_toArray, List.set_cons_zero, List.set_cons_succ]
                    rfl
                  refine pure_ (i := 10) (N := some 112) (v := ?_) (a' := ?_) #[true, false, true, false, false, true, true, true, true, false, true, false, false, false, false, false, false, false, false] rfl rfl (by kernel_rfl) (fun _ _ _ h => h) (Or.inl ⟨by rfl, ?_⟩) ?_ ?_
                  rotate_left
                  · intro w'
                    go_simp
                    with_reducible rfl
                  rotate_left
                  · simp only [Act.put, List.setIfInBounds_toArray, List.set_cons_zero, List.set_cons_succ]
                    rfl
                  refine pure_ (i := 11) (N := some 113) (v := ?_) (a' := ?_) #[true, false, true, false, false, true, true, true, true, false, true, true, false, false, false, false, false, false, false] rfl rfl (by kernel_rfl) (fun _ _ _ h => h) (Or.inl ⟨by rfl, ?_⟩) ?_ ?_
                  rotate_left
                  · intro w'
                    go_simp
                    with_reducible rfl
                  rotate_left
                  · simp only [Act.put, List.setIfInBounds_toArray, List.set_cons_zero, List.set_cons_succ]
                    rfl
                  refine pure_ (i := 12) (N := some 114) (v := ?_) (a' := ?_) #[true, false, true, false, false, true, true, true, true, false, true, true, true, false, false, false, false, false, false] rfl rfl (by kernel_rfl) (fun _ _ _ h => h) (Or.inl ⟨by rfl, ?_⟩) ?_ ?_
                  rotate_left
                  · intro w'
                    go_simp
                    with_reducible rfl
                  rotate_left
                  · simp only [Act.put, List.setIfInBounds_toArray, List.set_cons_zero, List.set_cons_succ]
                    rfl
                  refine pure_ (i := 13) (N := some 115) (v := ?_) (a' := ?_) #[true, false, true, false, false, true, true, true, true, false, true, true, true, true, false, false, false, false, false] rfl rfl (by kernel_rfl) (fun _ _ _ h => h) (Or.inl ⟨by rfl, ?_⟩) ?_ ?_
                  rotate_left
                  · intro w'
                    go_simp
                    with_reducible rfl
                  rotate_left
                  · simp only [Act.put, List.setIfInBounds_toArray, List.set_cons_zero, List.set_cons_succ]
                    rfl
                  refine take_ (i := 1) (N := some 103) (v := ?_) (a' := ?_) #[true, true, true, false, false, true, true, true, true, false, true, true, true, true, false, false, false, false, false] rfl rfl (by kernel_rfl) (fun _ _ _ h => h) (Or.inl ⟨by rfl, ?_⟩) hHeld ?_ ?_
                  rotate_left
                  · rintro w' ⟨s0, s1, s2, s3, s4, s5, s6, s7⟩
                    go_simp
                    with_reducible rfl
                  rotate_left
                  · simp only [Act.put, List.setIfInBounds_toArray, List.set_cons_zero, List.set_cons_succ]
                    rfl
                  refine pure_ (i := 3) (N := some 105) (v := ?_) (a' := ?_) #[true, true, true, true, false, true, true, true, true, false, true, true, true, true, false, false, false, false, false] rfl rfl (by kernel_rfl) (fun _ _ _ h => h) (Or.inl ⟨by rfl, ?_⟩) ?_ ?_
                  rotate_left
                  · intro w'
                    go_simp
                    with_reducible rfl
                  rotate_left
                  · simp only [Act.put, List.setIfInBounds_toArray, List.set_cons_zero, List.set_cons_succ]
                    rfl
                  refine take_ (i := 4) (N := some 106) (v := ?_) (a' := ?_) #[true, true, true, true, true, true, true, true, true, false, true, true, true, true, false, false, false, false, false] rfl rfl (by kernel_rfl) (fun _ _ _ h => h) (Or.inl ⟨by rfl, ?_⟩) hHeld ?_ ?_
                  rotate_left
                  · rintro w' ⟨s0, s1, s2, s3, s4, s5, s6, s7⟩
                    go_simp
                    with_reducible rfl
                  rotate_left
                  · simp only [Act.put, List.setIfInBounds_toArray, List.set_cons_zero, List.set_cons_succ]
                    rfl
                  refine take_ (i := 9) (N := some 111) (v := ?_) (a' := ?_) #[true, true, true, true, true, true, true, true, true, true, true, true, true, true, false, false, false, false, false] rfl rfl (by kernel_rfl) (fun _ _ _ h => h) (Or.inl ⟨by rfl, ?_⟩) hHeld ?_ ?_
                  rotate_left
                  · rintro w' ⟨s0, s1, s2, s3, s4, s5, s6, s7⟩
                    go_simp
                    with_reducible rfl
                  rotate_left
                  · simp only [Act.put, List.setIfInBounds_toArray, List.set_cons_zero, List.set_cons_succ]
                    rfl
                  refine take_ (i := 14) (N := some 116) (v := ?_) (a' := ?_) #[true, true, true, true, true, true, true, true, true, true, true, true, true, true, true, false, false, false, false] rfl rfl (by kernel_rfl) (fun _ _ _ h => h) (Or.inl ⟨by rfl, ?_⟩) hHeld ?_ ?_
                  rotate_left
                  · rintro w' ⟨s0, s1, s2, s3, s4, s5, s6, s7⟩
                    go_simp
                    with_reducible rfl
                  rotate_left
                  · simp only [Act.put, List.setIfInBounds_toArray, List.set_cons_zero, List.set_cons_succ]
                    rfl
                  refine pure_ (i := 15) (N := some 117) (v := ?_) (a' := ?_) #[true, true, true, true, true, true, true, true, true, true, true, true, true, true, true, true, false, false, false] rfl rfl (by kernel_rfl) (fun _ _ _ h => h) (Or.inl ⟨by rfl, ?_⟩) ?_ ?_
                  rotate_left
                  · intro w'
                    go_simp
                    with_reducible rfl
                  rotate_left
                  · simp only [Act.put, List.setIfInBounds_toArray, List.set_cons_zero, List.set_cons_succ]
                    rfl
                  refine pure_ (i := 16) (N := some 118) (v := ?_) (a' := ?_) #[true, true, true, true, true, true, true, true, true, true, true, true, true, true, true, true, true, false, false] rfl rfl (by kernel_rfl) (fun _ _ _ h => h) (Or.inl ⟨by rfl, ?_⟩) ?_ ?_
                  rotate_left
                  · intro w'
                    go_simp
                    with_reducible rfl
                  rotate_left
                  · simp only [Act.put, List.setIfInBounds_toArray, List.set_cons_zero, List.set_cons_succ]
                    rfl
                  refine one_ (i := 17) (N := some 119) #[true, true, true, true, true, true, true, true, true, true, true, true, true, true, true, true, true, true, false] rfl rfl (by kernel_rfl) (by decide) (fun K hK => ?_)
                  refine goes_ Try.func45 (by kernel_rfl) rfl #[.agg #[.string x.f0, .int .i64 x.f1, .int .i64 x.f2, .int .u32 x.f3, .slice A4 x.f4.length c4], .agg #[.string y.f0, .int .i64 (-1), .int .i64 1, .int .u32 (y.f1 % 4294967296), .slice none 0 0]] (by rfl) rfl rfl (by (try simp only [List.map_toArray, List.map_cons, List.map_nil]); rfl) ?_
                  refine (sameWordP x y false _ _ (k45.K_below (pw_below_drewN HB.out 1) KA.out) HV.out).mono ?_
                  rintro e W3 ⟨rfl, hb⟩
                  refine ⟨_, rfl, ?_⟩
                  obtain ⟨s0, s1, s2, s3, s4, s5, s6, s7⟩ := hHeld
                  have HB3 := Aside0.mk (below_then (below_drew HB.out) (below_drew HB.out).size hb)
                  have BA3 := Aside0.mk ((hb.block _ (blk_lt (show wr.drew.heap[w.heap.size]? = _ from BA.out))).trans BA.out)
                  have HP3 := Aside0.mk (Kd.C_below (show Kd.C k64 wr.drew _ 111 primsL from HP.out) hb)
                  refine hK.out _ _ ⟨((hb.cell (World.block_lt_of_cell? _ _ s0)).trans s0), ((hb.cell (World.block_lt_of_cell? _ _ s1)).trans s1), ((hb.cell (World.block_lt_of_cell? _ _ s2)).trans s2), ((hb.cell (World.block_lt_of_cell? _ _ s3)).trans s3), ((hb.cell (World.block_lt_of_cell? _ _ s4)).trans s4), ((hb.cell (World.block_lt_of_cell? _ _ s5)).trans s5), ((hb.cell (World.block_lt_of_cell? _ _ s6)).trans s6), ((hb.cell (World.block_lt_of_cell? _ _ s7)).trans s7)⟩ (fun hHeld => ?_)
                  clear hK K
                  refine norm_ (a' := ?_) ?_ ?_
                  rotate_left
                  · show Act.put _ (some 119) _ = _
                    simp only [Act.put, List.setIfInBounds_toArray, List.set_cons_zero, List.set_cons_succ]
                    rfl
                  refine pure_ (i := 18) (N := some 120) (v := ?_) (a' := ?_) #[true, true, true, true, true, true, true, true, true, true, true, true, true, true, true, true, true, true, true] rfl rfl (by kernel_rfl) (fun _ _ _ h => h) (Or.inl ⟨by rfl, ?_⟩) ?_ ?_
                  rotate_left
                  · intro w'
                    go_simp
                    with_reducible rfl
                  rotate_left
                  · simp only [Act.put, List.setIfInBounds_toArray, List.set_cons_zero, List.set_cons_succ]
                    rfl
                  refine done_ (by kernel_rfl) ?_
                  clear hHeld s0
                  go_wp2
                  go_ret
                  exact ⟨by rw [HT.out]; rfl, HB3.out⟩
                | true =>
                  have HV := Aside0.mk hv
                  have OKN : Aside0 ((List.range (i + 1)).all (wordAt l2 l5) = true) := ⟨range_more OK.out (HX.out.trans hv)⟩
                  clear OK hv
                  go_wp2
                  refine start_ (n := 19) (S := fun w' => w'.cell? ⟨w.heap.size, 2, none⟩ = some (.slice (some ad) l2.length c2) ∧ w'.cell? (ad.add (i * 5)) = some (.string x.f0) ∧ w'.cell? ⟨(ad.add (i * 5)).block, (ad.add (i * 5)).off + 1, none⟩ = some (.int .i64 x.f1) ∧ w'.cell? ⟨(ad.add (i * 5)).block, (ad.add (i * 5)).off + 2, none⟩ = some (.int .i64 x.f2) ∧ w'.cell? ⟨(ad.add (i * 5)).block, (ad.add (i * 5)).off + 3, none⟩ = some (.int .u32 x.f3) ∧ w'.cell? ⟨(ad.add (i * 5)).block, (ad.add (i * 5)).off + 4, none⟩ = some (.slice A4 x.f4.length c4) ∧ w'.cell? (pd.add (i * 2)) = some (.string y.f0) ∧ w'.cell? ⟨(pd.add (i * 2)).block, (pd.add (i * 2)).off + 1, none⟩ = some (.int .i64 y.f1)) (ds := []) #[false, false, false, false, false, false, false, false, false, false, false, false, false, false, false, false, false, false, false] (by kernel_rfl) rfl rfl ⟨ka2, z0, z1, z2, z3, z4, y0, y1⟩ (fun hHeld => ?_)
                  refine pure_ (i := 0) (N := some 102) (v := ?_) (a' := ?_) #[true, false, false, false, false, false, false, false, false, false, false, false, false, false, false, false, false, false, false] rfl rfl (by kernel_rfl) (fun _ _ _ h => h) (Or.inl ⟨by rfl, ?_⟩) ?_ ?_
                  rotate_left
                  · intro w'
                    go_simp
                    with_reducible rfl
                  rotate_left
                  · simp only [Act.put, List.setIfInBounds_toArray, List.set_cons_zero, List.set_cons_succ]
                    rfl
                  refine pure_ (i := 2) (N := some 104) (v := ?_) (a' := ?_) #[true, false, true, false, false, false, false, false, false, false, false, false, false, false, false, false, false, false, false] rfl rfl (by kernel_rfl) (fun _ _ _ h => h) (Or.inl ⟨by rfl, ?_⟩) ?_ ?_
                  rotate_left
                  · intro w'
                    go_simp
                    with_reducible rfl
                  rotate_left
                  · simp only [Act.put, List.setIfInBounds_toArray, List.set_cons_zero, List.set_cons_succ]
                    rfl
                  refine pure_ (i := 5) (N := some 107) (v := ?_) (a' := ?_) #[true, false, true, false, false, true, false, false, false, false, false, false, false, false, false, false, false, false, false] rfl rfl (by kernel_rfl) (fun _ _ _ h => h) (Or.inl ⟨by rfl, ?_⟩) ?_ ?_
                  rotate_left
                  · intro w'
                    go_simp
                    with_reducible rfl
                  rotate_left
                  · simp only [Act.put, List.setIfInBounds_toArray, List.set_cons_zero, List.set_cons_succ]
                    rfl
                  refine pure_ (i := 6) (N := some 108) (v := ?_) (a' := ?_) #[true, false, true, false, false, true, true, false, false, false, false, false, false, false, false, false, false, false, false] rfl rfl (by kernel_rfl) (fun _ _ _ h => h) (Or.inl ⟨by rfl, ?_⟩) ?_ ?_
                  rotate_left
                  · intro w'
                    go_simp
                    with_reducible rfl
                  rotate_left
                  · simp only [Act.put, List.setIfInBounds_toArray, List.set_cons_zero, List.set_cons_succ]
                    rfl
                  refine pure_ (i := 7) (N := some 109) (v := ?_) (a' := ?_) #[true, false, true, false, false, true, true, true, false, false, false, false, false, false, false, false, false, false, false] rfl rfl (by kernel_rfl) (fun _ _ _ h => h) (Or.inl ⟨by rfl, ?_⟩) ?_ ?_
                  rotate_left
                  · intro w'
                    go_simp
                    with_reducible rfl
                  rotate_left
                  · simp only [Act.put, List.setIfInBounds_toArray, List.set_cons_zero, List.set_cons_succ]
                    rfl
                  refine pure_ (i := 8) (N := some 110) (v := ?_) (a' := ?_) #[true, false, true, false, false, true, true, true, true, false, false, false, false, false, false, false, false, false, false] rfl rfl (by kernel_rfl) (fun _ _ _ h => h) (Or.inl ⟨by rfl, ?_⟩) ?_ ?_
                  rotate_left
                  · intro w'
                    go_simp
                    with_reducible rfl
                  rotate_left
                  · simp only [Act.put, List.setIfInBounds_toArray, List.set_cons_zero, List.set_cons_succ]
                    rfl
                  refine pure_ (i := 10) (N := some 112) (v := ?_) (a' := ?_) #[true, false, true, false, false, true, true, true, true, false, true, false, false, false, false, false, false, false, false] rfl rfl (by kernel_rfl) (fun _ _ _ h => h) (Or.inl ⟨by rfl, ?_⟩) ?_ ?_
                  rotate_left
                  · intro w'
                    go_simp
                    with_reducible rfl
                  rotate_left
                  · simp only [Act.put, List.setIfInBounds_toArray, List.set_cons_zero, List.set_cons_succ]
                    rfl
                  refine pure_ (i := 11) (N := some 113) (v := ?_) (a' := ?_) #[true, false, true, false, false, true, true, true, true, false, true, true, false, false, false, false, false, false, false] rfl rfl (by kernel_rfl) (fun _ _ _ h => h) (Or.inl ⟨by rfl, ?_⟩) ?_ ?_
                  rotate_left
                  · intro w'
                    go_simp
                    with_reducible rfl
                  rotate_left
                  · simp only [Act.put, List.setIfInBounds_toArray, List.set_cons_zero, List.set_cons_succ]
                    rfl
                  refine pure_ (i := 12) (N := some 114) (v := ?_) (a' := ?_) #[true, false, true, false, false, true, true, true, true, false, true, true, true, false, false, false, false, false, false] rfl rfl (by kernel_rfl) (fun _ _ _ h => h) (Or.inl ⟨by rfl, ?_⟩) ?_ ?_
                  rotate_left
                  · intro w'
                    go_simp
                    with_reducible rfl
                  rotate_left
                  · simp only [Act.put, List.setIfInBounds_toArray, List.set_cons_zero, List.set_cons_succ]
                    rfl
                  refine pure_ (i := 13) (N := some 115) (v := ?_) (a' := ?_) #[true, false, true, false, false, true, true, true, true, false, true, true, true, true, false, false, false, false, false] rfl rfl (by kernel_rfl) (fun _ _ _ h => h) (Or.inl ⟨by rfl, ?_⟩) ?_ ?_
                  rotate_left
                  · intro w'
                    go_simp
                    with_reducible rfl
                  rotate_left
                  · simp only [Act.put, List.setIfInBounds_toArray, List.set_cons_zero, List.set_cons_succ]
                    rfl
                  refine take_ (i := 1) (N := some 103) (v := ?_) (a' := ?_) #[true, true, true, false, false, true, true, true, true, false, true, true, true, true, false, false, false, false, false] rfl rfl (by kernel_rfl) (fun _ _ _ h => h) (Or.inl ⟨by rfl, ?_⟩) hHeld ?_ ?_
                  rotate_left
                  · rintro w' ⟨s0, s1, s2, s3, s4, s5, s6, s7⟩
                    go_simp
                    with_reducible rfl
                  rotate_left
                  · simp only [Act.put, List.setIfInBounds_toArray, List.set_cons_zero, List.set_cons_succ]
                    rfl
                  refine pure_ (i := 3) (N := some 105) (v := ?_) (a' := ?_) #[true, true, true, true, false, true, true, true, true, false, true, true, true, true, false, false, false, false, false] rfl rfl (by kernel_rfl) (fun _ _ _ h => h) (Or.inl ⟨by rfl, ?_⟩) ?_ ?_
                  rotate_left
                  · intro w'
                    go_simp
                    with_reducible rfl
                  rotate_left
                  · simp only [Act.put, List.setIfInBounds_toArray, List.set_cons_zero, List.set_cons_succ]
                    rfl
                  refine take_ (i := 4) (N := some 106) (v := ?_) (a' := ?_) #[true, true, true, true, true, true, true, true, true, false, true, true, true, true, false, false, false, false, false] rfl rfl (by kernel_rfl) (fun _ _ _ h => h) (Or.inl ⟨by rfl, ?_⟩) hHeld ?_ ?_
                  rotate_left
                  · rintro w' ⟨s0, s1, s2, s3, s4, s5, s6, s7⟩
                    go_simp
                    with_reducible rfl
                  rotate_left
                  · simp only [Act.put, List.setIfInBounds_toArray, List.set_cons_zero, List.set_cons_succ]
                    rfl
                  refine take_ (i := 9) (N := some 111) (v := ?_) (a' := ?_) #[true, true, true, true, true, true, true, true, true, true, true, true, true, true, false, false, false, false, false] rfl rfl (by kernel_rfl) (fun _ _ _ h => h) (Or.inl ⟨by rfl, ?_⟩) hHeld ?_ ?_
                  rotate_left
                  · rintro w' ⟨s0, s1, s2, s3, s4, s5, s6, s7⟩
                    go_simp
                    with_reducible rfl
                  rotate_left
                  · simp only [Act.put, List.setIfInBounds_toArray, List.set_cons_zero, List.set_cons_succ]
                    rfl
                  refine take_ (i := 14) (N := some 116) (v := ?_) (a' := ?_) #[true, true, true, true, true, true, true, true, true, true, true, true, true, true, true, false, false, false, false] rfl rfl (by kernel_rfl) (fun _ _ _ h => h) (Or.inl ⟨by rfl, ?_⟩) hHeld ?_ ?_
                  rotate_left
                  · rintro w' ⟨s0, s1, s2, s3, s4, s5, s6, s7⟩
                    go_simp
                    with_reducible rfl
                  rotate_left
                  · simp only [Act.put, List.setIfInBounds_toArray, List.set_cons_zero, List.set_cons_succ]
                    rfl
                  refine pure_ (i := 15) (N := some 117) (v := ?_) (a' := ?_) #[true, true, true, true, true, true, true, true, true, true, true, true, true, true, true, true, false, false, false] rfl rfl (by kernel_rfl) (fun _ _ _ h => h) (Or.inl ⟨by rfl, ?_⟩) ?_ ?_
                  rotate_left
                  · intro w'
                    go_simp
                    with_reducible rfl
                  rotate_left
                  · simp only [Act.put, List.setIfInBounds_toArray, List.set_cons_zero, List.set_cons_succ]
                    rfl
                  refine pure_ (i := 16) (N := some 118) (v := ?_) (a' := ?_) #[true, true, true, true, true, true, true, true, true, true, true, true, true, true, true, true, true, false, false] rfl rfl (by kernel_rfl) (fun _ _ _ h => h) (Or.inl ⟨by rfl, ?_⟩) ?_ ?_
                  rotate_left
                  · intro w'
                    go_simp
                    with_reducible rfl
                  rotate_left
                  · simp only [Act.put, List.setIfInBounds_toArray, List.set_cons_zero, List.set_cons_succ]
                    rfl
                  refine one_ (i := 17) (N := some 119) #[true, true, true, true, true, true, true, true, true, true, true, true, true, true, true, true, true, true, false] rfl rfl (by kernel_rfl) (by decide) (fun K hK => ?_)
                  refine goes_ Try.func45 (by kernel_rfl) rfl #[.agg #[.string x.f0, .int .i64 x.f1, .int .i64 x.f2, .int .u32 x.f3, .slice A4 x.f4.length c4], .agg #[.string y.f0, .int .i64 (-1), .int .i64 1, .int .u32 (y.f1 % 4294967296), .slice none 0 0]] (by rfl) rfl rfl (by (try simp only [List.map_toArray, List.map_cons, List.map_nil]); rfl) ?_
                  refine (sameWordP x y true _ _ (k45.K_below (pw_below_drewN HB.out 1) KA.out) HV.out).mono ?_
                  rintro e W3 ⟨rfl, hb⟩
                  refine ⟨_, rfl, ?_⟩
                  obtain ⟨s0, s1, s2, s3, s4, s5, s6, s7⟩ := hHeld
                  have HB3 := Aside0.mk (below_then (below_drew HB.out) (below_drew HB.out).size hb)
                  have BA3 := Aside0.mk ((hb.block _ (blk_lt (show wr.drew.heap[w.heap.size]? = _ from BA.out))).trans BA.out)
                  have HP3 := Aside0.mk (Kd.C_below (show Kd.C k64 wr.drew _ 111 primsL from HP.out) hb)
                  refine hK.out _ _ ⟨((hb.cell (World.block_lt_of_cell? _ _ s0)).trans s0), ((hb.cell (World.block_lt_of_cell? _ _ s1)).trans s1), ((hb.cell (World.block_lt_of_cell? _ _ s2)).trans s2), ((hb.cell (World.block_lt_of_cell? _ _ s3)).trans s3), ((hb.cell (World.block_lt_of_cell? _ _ s4)).trans s4), ((hb.cell (World.block_lt_of_cell? _ _ s5)).trans s5), ((hb.cell (World.block_lt_of_cell? _ _ s6)).trans s6), ((hb.cell (World.block_lt_of_cell? _ _ s7)).trans s7)⟩ (fun hHeld => ?_)
                  clear hK K
                  refine norm_ (a' := ?_) ?_ ?_
                  rotate_left
                  · show Act.put _ (some 119) _ = _
                    simp only [Act.put, List.setIfInBounds_toArray, List.set_cons_zero, List.set_cons_succ]
                    rfl
                  refine pure_ (i := 18) (N := some 120) (v := ?_) (a' := ?_) #[true, true, true, true, true, true, true, true, true, true, true, true, true, true, true, true, true, true, true] rfl rfl (by kernel_rfl) (fun _ _ _ h => h) (Or.inl ⟨by rfl, ?_⟩) ?_ ?_
                  rotate_left
                  · intro w'
                    go_simp
                    with_reducible rfl
                  rotate_left
                  · simp only [Act.put, List.setIfInBounds_toArray, List.set_cons_zero, List.set_cons_succ]
                    rfl
                  refine done_ (by kernel_rfl) ?_
                  clear hHeld s0
                  go_wp2
                  go_roundg (l2.length - (i + 1))
                  case measure => omega
                  case rel => exact ⟨i + 1, by omega, by omega, by go_num, OKN, BA3, HB3, HP3⟩
              · have h111z : ¬ (i : Int) < 111 := by omega
                have HX : Aside0 (wordAt l2 l5 i = wordV9 (l2.length : Int) l5 x) := ⟨by unfold wordAt; rw [if_neg h111, hgd]⟩
                clear hgd
                cases hv : wordV9 (l2.length : Int) l5 x with
                | false =>
                  have HV := Aside0.mk hv
                  have HT := Aside0.mk (BAD1.out i hlt (HX.out.trans hv))
                  clear OK hv
                  go_wp2
                  refine start_ (n := 12) (S := fun w' => w'.cell? ⟨w.heap.size, 2, none⟩ = some (.slice (some ad) l2.length c2) ∧ w'.cell? ⟨w.heap.size, 5, none⟩ = some (.slice A5 l5.length c5) ∧ w'.cell? (ad.add (i * 5)) = some (.string x.f0) ∧ w'.cell? ⟨(ad.add (i * 5)).block, (ad.add (i * 5)).off + 1, none⟩ = some (.int .i64 x.f1) ∧ w'.cell? ⟨(ad.add (i * 5)).block, (ad.add (i * 5)).off + 2, none⟩ = some (.int .i64 x.f2) ∧ w'.cell? ⟨(ad.add (i * 5)).block, (ad.add (i * 5)).off + 3, none⟩ = some (.int .u32 x.f3) ∧ w'.cell? ⟨(ad.add (i * 5)).block, (ad.add (i * 5)).off + 4, none⟩ = some (.slice A4 x.f4.length c4)) (ds := []) #[false, false, false, false, false, false, false, false, false, false, false, false] (by kernel_rfl) rfl rfl ⟨ka2, ka5, z0, z1, z2, z3, z4⟩ (fun hHeld => ?_)
                  refine pure_ (i := 0) (N := some 121) (v := ?_) (a' := ?_) #[true, false, false, false, false, false, false, false, false, false, false, false] rfl rfl (by kernel_rfl) (fun _ _ _ h => h) (Or.inl ⟨by rfl, ?_⟩) ?_ ?_
                  rotate_left
                  · intro w'
                    go_simp
                    with_reducible rfl
                  rotate_left
                  · simp only [Act.put, List.setIfInBounds_toArray, List.set_cons_zero, List.set_cons_succ]
                    rfl
                  refine pure_ (i := 2) (N := some 123) (v := ?_) (a' := ?_) #[true, false, true, false, false, false, false, false, false, false, false, false] rfl rfl (by kernel_rfl) (fun _ _ _ h => h) (Or.inl ⟨by rfl, ?_⟩) ?_ ?_
                  rotate_left
                  · intro w'
                    go_simp
                    with_reducible rfl
                  rotate_left
                  · simp only [Act.put, List.setIfInBounds_toArray, List.set_cons_zero, List.set_cons_succ]
                    rfl
                  refine pure_ (i := 5) (N := some 126) (v := ?_) (a' := ?_) #[true, false, true, false, false, true, false, false, false, false, false, false] rfl rfl (by kernel_rfl) (fun _ _ _ h => h) (Or.inl ⟨by rfl, ?_⟩) ?_ ?_
                  rotate_left
                  · intro w'
                    go_simp
                    with_reducible rfl
                  rotate_left
                  · simp only [Act.put, List.setIfInBounds_toArray, List.set_cons_zero, List.set_cons_succ]
                    rfl
                  refine pure_ (i := 8) (N := some 129) (v := ?_) (a' := ?_) #[true, false, true, false, false, true, false, false, true, false, false, false] rfl rfl (by kernel_rfl) (fun _ _ _ h => h) (Or.inl ⟨by rfl, ?_⟩) ?_ ?_
                  rotate_left
                  · intro w'
                    go_simp
                    with_reducible rfl
                  rotate_left
                  · simp only [Act.put, List.setIfInBounds_toArray, List.set_cons_zero, List.set_cons_succ]
                    rfl
                  refine take_ (i := 1) (N := some 122) (v := ?_) (a' := ?_) #[true, true, true, false, false, true, false, false, true, false, false, false] rfl rfl (by kernel_rfl) (fun _ _ _ h => h) (Or.inl ⟨by rfl, ?_⟩) hHeld ?_ ?_
                  rotate_left
                  · rintro w' ⟨s0, s1, s2, s3, s4, s5, s6⟩
                    go_simp
                    with_reducible rfl
                  rotate_left
                  · simp only [Act.put, List.setIfInBounds_toArray, List.set_cons_zero, List.set_cons_succ]
                    rfl
                  refine pure_ (i := 3) (N := some 124) (v := ?_) (a' := ?_) #[true, true, true, true, false, true, false, false, true, false, false, false] rfl rfl (by kernel_rfl) (fun _ _ _ h => h) (Or.inl ⟨by rfl, ?_⟩) ?_ ?_
                  rotate_left
                  · intro w'
                    go_simp
                    with_reducible rfl
                  rotate_left
                  · simp only [Act.put, List.setIfInBounds_toArray, List.set_cons_zero, List.set_cons_succ]
                    rfl
                  refine take_ (i := 4) (N := some 125) (v := ?_) (a' := ?_) #[true, true, true, true, true, true, false, false, true, false, false, false] rfl rfl (by kernel_rfl) (fun _ _ _ h => h) (Or.inl ⟨by rfl, ?_⟩) hHeld ?_ ?_
                  rotate_left
                  · rintro w' ⟨s0, s1, s2, s3, s4, s5, s6⟩
                    go_simp
                    with_reducible rfl
                  rotate_left
                  · simp only [Act.put, List.setIfInBounds_toArray, List.set_cons_zero, List.set_cons_succ]
                    rfl
                  refine take_ (i := 6) (N := some 127) (v := ?_) (a' := ?_) #[true, true, true, true, true, true, true, false, true, false, false, false] rfl rfl (by kernel_rfl) (fun _ _ _ h => h) (Or.inl ⟨by rfl, ?_⟩) hHeld ?_ ?_
                  rotate_left
                  · rintro w' ⟨s0, s1, s2, s3, s4, s5, s6⟩
                    go_simp
                    with_reducible rfl
                  rotate_left
                  · simp only [Act.put, List.setIfInBounds_toArray, List.set_cons_zero, List.set_cons_succ]
                    rfl
                  refine pure_ (i := 7) (N := some 128) (v := ?_) (a' := ?_) #[true, true, true, true, true, true, true, true, true, false, false, false] rfl rfl (by kernel_rfl) (fun _ _ _ h => h) (Or.inl ⟨by rfl, ?_⟩) ?_ ?_
                  rotate_left
                  · intro w'
                    go_simp
                    with_reducible rfl
                  rotate_left
                  · simp only [Act.put, List.setIfInBounds_toArray, List.set_cons_zero, List.set_cons_succ]
                    rfl
                  refine take_ (i := 9) (N := some 130) (v := ?_) (a' := ?_) #[true, true, true, true, true, true, true, true, true, true, false, false] rfl rfl (by kernel_rfl) (fun _ _ _ h => h) (Or.inl ⟨by rfl, ?_⟩) hHeld ?_ ?_
                  rotate_left
                  · rintro w' ⟨s0, s1, s2, s3, s4, s5, s6⟩
                    go_simp
                    with_reducible rfl
                  rotate_left
                  · simp only [Act.put, List.setIfInBounds_toArray, List.set_cons_zero, List.set_cons_succ]
                    rfl
                  refine one_ (i := 10) (N := some 131) #[true, true, true, true, true, true, true, true, true, true, true, false] rfl rfl (by kernel_rfl) (by decide) (fun K hK => ?_)
                  refine goes_ Try.func46 (by kernel_rfl) rfl #[.agg #[.string x.f0, .int .i64 x.f1, .int .i64 x.f2, .int .u32 x.f3, .slice A4 x.f4.length c4], .int .i64 (l2.length : Int), .slice A5 l5.length c5] (by rfl) rfl rfl (by (try simp only [List.map_toArray, List.map_cons, List.map_nil]); rfl) ?_
                  refine (word46 x HSX.out (l2.length : Int) l5 _ A5 c5 _ (k45.K_below (pw_below_drewN HB.out 1) KA.out) (Kd.C_below hr5.out (pw_below_drewN HB.out 1)) hc5.out false HV.out).mono ?_
                  rintro e W3 ⟨rfl, hb⟩
                  refine ⟨_, rfl, ?_⟩
                  obtain ⟨s0, s1, s2, s3, s4, s5, s6⟩ := hHeld
                  have HB3 := Aside0.mk (below_then (below_drew HB.out) (below_drew HB.out).size hb)
                  have BA3 := Aside0.mk ((hb.block _ (blk_lt (show wr.drew.heap[w.heap.size]? = _ from BA.out))).trans BA.out)
                  have HP3 := Aside0.mk (Kd.C_below (show Kd.C k64 wr.drew _ 111 primsL from HP.out) hb)
                  refine hK.out _ _ ⟨((hb.cell (World.block_lt_of_cell? _ _ s0)).trans s0), ((hb.cell (World.block_lt_of_cell? _ _ s1)).trans s1), ((hb.cell (World.block_lt_of_cell? _ _ s2)).trans s2), ((hb.cell (World.block_lt_of_cell? _ _ s3)).trans s3), ((hb.cell (World.block_lt_of_cell? _ _ s4)).trans s4), ((hb.cell (World.block_lt_of_cell? _ _ s5)).trans s5), ((hb.cell (World.block_lt_of_cell? _ _ s6)).trans s6)⟩ (fun hHeld => ?_)
                  clear hK K
                  refine norm_ (a' := ?_) ?_ ?_
                  rotate_left
                  · show Act.put _ (some 131) _ = _
                    simp only [Act.put, List.setIfInBounds_toArray, List.set_cons_zero, List.set_cons_succ]
                    rfl
                  refine pure_ (i := 11) (N := some 132) (v := ?_) (a' := ?_) #[true, true, true, true, true, true, true, true, true, true, true, true] rfl rfl (by kernel_rfl) (fun _ _ _ h => h) (Or.inl ⟨by rfl, ?_⟩) ?_ ?_
                  rotate_left
                  · intro w'
                    go_simp
                    with_reducible rfl
                  rotate_left
                  · simp only [Act.put, List.setIfInBounds_toArray, List.set_cons_zero, List.set_cons_succ]
                    rfl
                  refine done_ (by kernel_rfl) ?_
                  clear hHeld s0
                  go_wp2
                  go_ret
                  exact ⟨by rw [HT.out]; rfl, HB3.out⟩
                | true =>
                  have HV := Aside0.mk hv
                  have OKN : Aside0 ((List.range (i + 1)).all (wordAt l2 l5) = true) := ⟨range_more OK.out (HX.out.trans hv)⟩
                  clear OK hv
                  go_wp2
                  refine start_ (n := 12) (S := fun w' => w'.cell? ⟨w.heap.size, 2, none⟩ = some (.slice (some ad) l2.length c2) ∧ w'.cell? ⟨w.heap.size, 5, none⟩ = some (.slice A5 l5.length c5) ∧ w'.cell? (ad.add (i * 5)) = some (.string x.f0) ∧ w'.cell? ⟨(ad.add (i * 5)).block, (ad.add (i * 5)).off + 1, none⟩ = some (.int .i64 x.f1) ∧ w'.cell? ⟨(ad.add (i * 5)).block, (ad.add (i * 5)).off + 2, none⟩ = some (.int .i64 x.f2) ∧ w'.cell? ⟨(ad.add (i * 5)).block, (ad.add (i * 5)).off + 3, none⟩ = some (.int .u32 x.f3) ∧ w'.cell? ⟨(ad.add (i * 5)).block, (ad.add (i * 5)).off + 4, none⟩ = some (.slice A4 x.f4.length c4)) (ds := []) #[false, false, false, false, false, false, false, false, false, false, false, false] (by kernel_rfl) rfl rfl ⟨ka2, ka5, z0, z1, z2, z3, z4⟩ (fun hHeld => ?_)
                  refine pure_ (i := 0) (N := some 121) (v := ?_) (a' := ?_) #[true, false, false, false, false, false, false, false, false, false, false, false] rfl rfl (by kernel_rfl) (fun _ _ _ h => h) (Or.inl ⟨by rfl, ?_⟩) ?_ ?_
                  rotate_left
                  · intro w'
                    go_simp
                    with_reducible rfl
                  rotate_left
                  · simp only [Act.put, List.setIfInBounds_toArray, List.set_cons_zero, List.set_cons_succ]
                    rfl
                  refine pure_ (i := 2) (N := some 123) (v := ?_) (a' := ?_) #[true, false, true, false, false, false, false, false, false, false, false, false] rfl rfl (by kernel_rfl) (fun _ _ _ h => h) (Or.inl ⟨by rfl, ?_⟩) ?_ ?_
                  rotate_left
                  · intro w'
                    go_simp
                    with_reducible rfl
                  rotate_left
                  · simp only [Act.put, List.setIfInBounds_toArray, List.set_cons_zero, List.set_cons_succ]
                    rfl
                  refine pure_ (i := 5) (N := some 126) (v := ?_) (a' := ?_) #[true, false, true, false, false, true, false, false, false, false, false, false] rfl rfl (by kernel_rfl) (fun _ _ _ h => h) (Or.inl ⟨by rfl, ?_⟩) ?_ ?_
                  rotate_left
                  · intro w'
                    go_simp
                    with_reducible rfl
                  rotate_left
                  · simp only [Act.put, List.setIfInBounds_toArray, List.set_cons_zero, List.set_cons_succ]
                    rfl
                  refine pure_ (i := 8) (N := some 129) (v := ?_) (a' := ?_) #[true, false, true, false, false, true, false, false, true, false, false, false] rfl rfl (by kernel_rfl) (fun _ _ _ h => h) (Or.inl ⟨by rfl, ?_⟩) ?_ ?_
                  rotate_left
                  · intro w'
                    go_simp
                    with_reducible rfl
                  rotate_left
                  · simp only [Act.put, List.setIfInBounds_toArray, List.set_cons_zero, List.set_cons_succ]
                    rfl
                  refine take_ (i := 1) (N := some 122) (v := ?_) (a' := ?_) #[true, true, true, false, false, true, false, false, true, false, false, false] rfl rfl (by kernel_rfl) (fun _ _ _ h => h) (Or.inl ⟨by rfl, ?_⟩) hHeld ?_ ?_
                  rotate_left
                  · rintro w' ⟨s0, s1, s2, s3, s4, s5, s6⟩
                    go_simp
                    with_reducible rfl
                  rotate_left
                  · simp only [Act.put, List.setIfInBounds_toArray, List.set_cons_zero, List.set_cons_succ]
                    rfl
                  refine pure_ (i := 3) (N := some 124) (v := ?_) (a' := ?_) #[true, true, true, true, false, true, false, false, true, false, false, false] rfl rfl (by kernel_rfl) (fun _ _ _ h => h) (Or.inl ⟨by rfl, ?_⟩) ?_ ?_
                  rotate_left
                  · intro w'
                    go_simp
                    with_reducible rfl
                  rotate_left
                  · simp only [Act.put, List.setIfInBounds_toArray, List.set_cons_zero, List.set_cons_succ]
                    rfl
                  refine take_ (i := 4) (N := some 125) (v := ?_) (a' := ?_) #[true, true, true, true, true, true, false, false, true, false, false, false] rfl rfl (by kernel_rfl) (fun _ _ _ h => h) (Or.inl ⟨by rfl, ?_⟩) hHeld ?_ ?_
                  rotate_left
                  · rintro w' ⟨s0, s1, s2, s3, s4, s5, s6⟩
                    go_simp
                    with_reducible rfl
                  rotate_left
                  · simp only [Act.put, List.setIfInBounds_toArray, List.set_cons_zero, List.set_cons_succ]
                    rfl
                  refine take_ (i := 6) (N := some 127) (v := ?_) (a' := ?_) #[true, true, true, true, true, true, true, false, true, false, false, false] rfl rfl (by kernel_rfl) (fun _ _ _ h => h) (Or.inl ⟨by rfl, ?_⟩) hHeld ?_ ?_
                  rotate_left
                  · rintro w' ⟨s0, s1, s2, s3, s4, s5, s6⟩
                    go_simp
                    with_reducible rfl
                  rotate_left
                  · simp only [Act.put, List.setIfInBounds_toArray, List.set_cons_zero, List.set_cons_succ]
                    rfl
                  refine pure_ (i := 7) (N := some 128) (v := ?_) (a' := ?_) #[true, true, true, true, true, true, true, true, true, false, false, false] rfl rfl (by kernel_rfl) (fun _ _ _ h => h) (Or.inl ⟨by rfl, ?_⟩) ?_ ?_
                  rotate_left
                  · intro w'
                    go_simp
                    with_reducible rfl
                  rotate_left
                  · simp only [Act.put, List.setIfInBounds_toArray, List.set_cons_zero, List.set_cons_succ]
                    rfl
                  refine take_ (i := 9) (N := some 130) (v := ?_) (a' := ?_) #[true, true, true, true, true, true, true, true, true, true, false, false] rfl rfl (by kernel_rfl) (fun _ _ _ h => h) (Or.inl ⟨by rfl, ?_⟩) hHeld ?_ ?_
                  rotate_left
                  · rintro w' ⟨s0, s1, s2, s3, s4, s5, s6⟩
                    go_simp
                    with_reducible rfl
                  rotate_left
                  · simp only [Act.put, List.setIfInBounds_toArray, List.set_cons_zero, List.set_cons_succ]
                    rfl
                  refine one_ (i := 10) (N := some 131) #[true, true, true, true, true, true, true, true, true, true, true, false] rfl rfl (by kernel_rfl) (by decide) (fun K hK => ?_)
                  refine goes_ Try.func46 (by kernel_rfl) rfl #[.agg #[.string x.f0, .int .i64 x.f1, .int .i64 x.f2, .int .u32 x.f3, .slice A4 x.f4.length c4], .int .i64 (l2.length : Int), .slice A5 l5.length c5] (by rfl) rfl rfl (by (try simp only [List.map_toArray, List.map_cons, List.map_nil]); rfl) ?_
                  refine (word46 x HSX.out (l2.length : Int) l5 _ A5 c5 _ (k45.K_below (pw_below_drewN HB.out 1) KA.out) (Kd.C_below hr5.out (pw_below_drewN HB.out 1)) hc5.out true HV.out).mono ?_
                  rintro e W3 ⟨rfl, hb⟩
                  refine ⟨_, rfl, ?_⟩
                  obtain ⟨s0, s1, s2, s3, s4, s5, s6⟩ := hHeld
                  have HB3 := Aside0.mk (below_then (below_drew HB.out) (below_drew HB.out).size hb)
                  have BA3 := Aside0.mk ((hb.block _ (blk_lt (show wr.drew.heap[w.heap.size]? = _ from BA.out))).trans BA.out)
                  have HP3 := Aside0.mk (Kd.C_below (show Kd.C k64 wr.drew _ 111 primsL from HP.out) hb)
                  refine hK.out _ _ ⟨((hb.cell (World.block_lt_of_cell? _ _ s0)).trans s0), ((hb.cell (World.block_lt_of_cell? _ _ s1)).trans s1), ((hb.cell (World.block_lt_of_cell? _ _ s2)).trans s2), ((hb.cell (World.block_lt_of_cell? _ _ s3)).trans s3), ((hb.cell (World.block_lt_of_cell? _ _ s4)).trans s4), ((hb.cell (World.block_lt_of_cell? _ _ s5)).trans s5), ((hb.cell (World.block_lt_of_cell? _ _ s6)).trans s6)⟩ (fun hHeld => ?_)
                  clear hK K
                  refine norm_ (a' := ?_) ?_ ?_
                  rotate_left
                  · show Act.put _ (some 131) _ = _
                    simp only [Act.put, List.setIfInBounds_toArray, List.set_cons_zero, List.set_cons_succ]
                    rfl
                  refine pure_ (i := 11) (N := some 132) (v := ?_) (a' := ?_) #[true, true, true, true, true, true, true, true, true, true, true, true] rfl rfl (by kernel_rfl) (fun _ _ _ h => h) (Or.inl ⟨by rfl, ?_⟩) ?_ ?_
                  rotate_left
                  · intro w'
                    go_simp
                    with_reducible rfl
                  rotate_left
                  · simp only [Act.put, List.setIfInBounds_toArray, List.set_cons_zero, List.set_cons_succ]
                    rfl
                  refine done_ (by kernel_rfl) ?_
                  clear hHeld s0
                  go_wp2
                  go_roundg (l2.length - (i + 1))
                  case measure => omega
                  case rel => exact ⟨i + 1, by omega, by omega, by go_num, OKN, BA3, HB3, HP3⟩
            · have hltz : ¬ (i : Int) < (l2.length : Int) := by omega
              have OKA : Aside0 ((List.range l2.length).all (wordAt l2 l5) = true) := ⟨by
                have e : i = l2.length := by omega
                have h := OK.out
                rw [e] at h
                exact h⟩
              clear OK hgg hle
              go_wp2
              go_loopg [5] l3.length (fun gg s5 wr => ∃ i : Nat, i ≤ l3.length ∧ l3.length - i ≤ gg ∧ s5 = .int .i64 i ∧ Aside0 ((List.range i).all (codeAt l2 l3) = true) ∧ Aside0 (wr.heap[w.heap.size]? = some (.cells #[.slice A0 l0.length c0, .slice A1 l1.length c1, .slice A2 l2.length c2, .slice A3 l3.length c3, .int .u32 a4, .slice A5 l5.length c5, .int .i64 a6, .slice A7 l7.length c7, .int .i64 a8, .string a9] 35 (0, 0))) ∧ Aside0 (Below w.heap.size w wr))
              case atStart => exact ⟨0, by omega, by omega, rfl, ⟨rfl⟩, BA, HB⟩
              case round =>
                clear BA HB HP
                (try clear ka0 ka1 ka2 ka3 ka4 ka5 ka6 ka7 ka8 ka9)
                obtain ⟨i, hle, hgg, rfl, OK, BA, HB⟩ := hrel
                have ka0 := cell_of_row _ _ 0 _ _ _ BA.out; have ka1 := cell_of_row _ _ 1 _ _ _ BA.out; have ka2 := cell_of_row _ _ 2 _ _ _ BA.out; have ka3 := cell_of_row _ _ 3 _ _ _ BA.out; have ka4 := cell_of_row _ _ 4 _ _ _ BA.out; have ka5 := cell_of_row _ _ 5 _ _ _ BA.out; have ka6 := cell_of_row _ _ 6 _ _ _ BA.out; have ka7 := cell_of_row _ _ 7 _ _ _ BA.out; have ka8 := cell_of_row _ _ 8 _ _ _ BA.out; have ka9 := cell_of_row _ _ 9 _ _ _ BA.out; simp only [List.getElem?_toArray, List.getElem?_cons_succ, List.getElem?_cons_zero] at ka0 ka1 ka2 ka3 ka4 ka5 ka6 ka7 ka8 ka9
                by_cases hlt2 : i < l3.length
                · have hltz2 : (i : Int) < (l3.length : Int) := by omega
                  have hi0 : (0 : Int) ≤ (i : Int) := by omega
                  obtain ⟨ad, e, z0⟩ := Kd.at_int hr3.out (i : Int) hi0 hltz2
                  cases e
                  rw [Int.toNat_natCast] at z0
                  have hgd : l3.getD i 0 = rd l3 (i : Int) := rfl
                  obtain ⟨x, hx⟩ : ∃ x, x = rd l3 (i : Int) := ⟨_, rfl⟩
                  rw [← hx] at z0 hgd
                  clear hx
                  have HX : Aside0 (codeAt l2 l3 i = (decide (-1 ≤ x) && decide (x < (l2.length : Int)))) := ⟨by unfold codeAt; rw [hgd]⟩
                  clear hgd
                  replace z0 := (HB.out.cell (World.block_lt_of_cell? w _ z0)).trans z0
                  have p0 := eq_true hi0
                  have p1 := eq_true hltz2
                  by_cases h0 : x < -1
                  · have d0 : decide (x < -1) = true := decide_eq_true h0
                    have HT := Aside0.mk (BAD2.out i hlt2 (by rw [HX.out, decide_eq_false (show ¬ -1 ≤ x by omega)]; rfl))
                    clear OK h0
                    go_wp2
                    go_quiet (fail)
                    go_wp2
                    go_ret
                    exact ⟨by rw [HT.out]; rfl, pw_below_drewN HB.out _⟩
                  have d0 : decide (x < -1) = false := decide_eq_false h0
                  by_cases h1 : (l2.length : Int) ≤ x
                  · have d1 : decide ((l2.length : Int) ≤ x) = true := decide_eq_true h1
                    have HT := Aside0.mk (BAD2.out i hlt2 (by rw [HX.out, decide_eq_false (show ¬ x < (l2.length : Int) by omega), Bool.and_false]))
                    clear OK h0 h1
                    go_wp2
                    go_quiet (fail)
                    go_wp2
                    go_ret
                    exact ⟨by rw [HT.out]; rfl, pw_below_drewN HB.out _⟩
                  have d1 : decide ((l2.length : Int) ≤ x) = false := decide_eq_false h1
                  have OKN : Aside0 ((List.range (i + 1)).all (codeAt l2 l3) = true) := ⟨range_more OK.out (by rw [HX.out, decide_eq_true (show -1 ≤ x by omega), decide_eq_true (show x < (l2.length : Int) by omega)]; rfl)⟩
                  clear OK h0 h1
                  go_wp2
                  go_quiet (fail)
                  go_wp2
                  go_roundg (l3.length - (i + 1))
                  case measure => omega
                  case rel => exact ⟨i + 1, by omega, by omega, by go_num, OKN, ⟨BA.out⟩, ⟨pw_below_drewN HB.out _⟩⟩
                · have hltz2 : ¬ (i : Int) < (l3.length : Int) := by omega
                  have HT : Aside0 (formedR l0 l1 l2 l3 l5 l7 a4 a6 a8 a9 = true) := ⟨by
                    have e : i = l3.length := by omega
                    have h := OK.out
                    rw [e] at h
                    unfold formedR
                    rw [HCAP.out, HTR.out, OKA.out, h]
                    rfl⟩
                  clear OK
                  go_wp2
                  go_ret
                  exact ⟨by rw [HT.out]; rfl, HB.out⟩
end Go.Proofs.Ytpalbpakeokimaa.PK
