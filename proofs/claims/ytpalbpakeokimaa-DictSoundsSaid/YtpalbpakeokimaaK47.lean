-- written by wip/tools/myprint.py over the kit's print.py
import Derived.Test.YtpalbpakeokimaaGal
import Derived.Test.YtpalbpakeokimaaGb
import Derived.Test.YtpalbpakeokimaaK0
import Derived.Test.YtpalbpakeokimaaK41
import Derived.Test.YtpalbpakeokimaaK42
import Derived.Test.YtpalbpakeokimaaK46
namespace Go.Proofs.Ytpalbpakeokimaa.PK
open Go.RowKit Go.Proofs.YtpalbpakeokimaaW.PrintWords Go.Proofs.YtpalbpakeokimaaW.PrintLast Go.Proofs.YtpalbpakeokimaaW.PrintMore
attribute [local go_sem] max2_int min2_int max_two min_two max_three min_three max_four min_four   -- for this text's walks alone
set_option linter.unusedVariables false
set_option linter.unusedSimpArgs false

/-! ### tinderlaw09_DictSounds: function 3 -/
def tinderlaw09_DictSounds.f (k : Nat) (l0 : List (S57)) (a1 : Int) (a2 : ByteArray) : Option (Bool) := (tinderlaw09_alive.f).bind fun t125 => (if t125 = true then ((dict_Sound.f k l0 a1).bind fun t126 => ((tinderref09_Sound.f k l0 a1).bind fun t127 => (if (t126 == t127) = true then ((dict_Named.f a2).bind fun t128 => ((tinderref09_Named.f k a2).bind fun t129 => (some (t128 == t129)))) else (some false)))) else (some false))
theorem tinderlaw09_DictSounds.mono : ∀ a0 a1 a2 k, LeO (tinderlaw09_DictSounds.f k a0 a1 a2) (tinderlaw09_DictSounds.f (k + 1) a0 a1 a2) := by
  intro a0 a1 a2 k
  unfold tinderlaw09_DictSounds.f
  repeat' first
      | (with_reducible exact dict_Sound.mono _ _ _)
      | (with_reducible exact tinderref09_Named.mono _ _)
      | (with_reducible exact tinderref09_Sound.mono _ _ _)
      | (with_reducible exact LeO.refl _)
      | (with_reducible exact LeO.none _)
      | (with_reducible refine LeO.ite ?_ ?_)
      | (with_reducible refine LeO.bind ?_ (fun _ => ?_))
      | exact dict_Sound.mono _ _ _
      | exact tinderref09_Named.mono _ _
      | exact tinderref09_Sound.mono _ _ _
      | exact LeO.none _
      | refine LeO.ite ?_ ?_
      | refine LeO.bind ?_ (fun _ => ?_)
set_option maxHeartbeats 8000000 in
set_option maxRecDepth 100000 in
theorem tinderlaw09_DictSounds.calls (k : Nat) (A0 : Option Addr) (c0 : Nat) (l0 : List (S57)) (a1 : Int) (a2 : ByteArray) (r : Bool) (w : World) (hr0 : Kd.C k57 w A0 l0.length l0) (hc0 : l0.length ≤ c0) (h : tinderlaw09_DictSounds.f k l0 a1 a2 = some r) :
    Calls Try.prog 3 #[.slice A0 l0.length c0, .int .i64 a1, .string a2] w fun e w' => e = .returned (.bool r) ∧ Below w.heap.size w w' := by
  have HR0 := Aside0.mk hr0
  have HC0 := Aside0.mk hc0
  clear hr0 hc0
  have HB := Aside0.mk (Below.refl w.heap.size w)
  have H : ((tinderlaw09_alive.f).bind fun t125 => (if t125 = true then ((dict_Sound.f k l0 a1).bind fun t126 => ((tinderref09_Sound.f k l0 a1).bind fun t127 => (if (t126 == t127) = true then ((dict_Named.f a2).bind fun t128 => ((tinderref09_Named.f k a2).bind fun t129 => (some (t128 == t129)))) else (some false)))) else (some false))) = some r := h
  clear h
  replace H := Option.bind_eq_some_iff.mp H
  obtain ⟨t125, A40, H⟩ := H
  replace H : (if t125 = true then ((dict_Sound.f k l0 a1).bind fun t126 => ((tinderref09_Sound.f k l0 a1).bind fun t127 => (if (t126 == t127) = true then ((dict_Named.f a2).bind fun t128 => ((tinderref09_Named.f k a2).bind fun t129 => (some (t128 == t129)))) else (some false)))) else (some false)) = some r := H
  have A4 := Aside0.mk A40
  clear A40
  by_cases c5 : t125 = true
  · subst c5
    have H1 : ((dict_Sound.f k l0 a1).bind fun t126 => ((tinderref09_Sound.f k l0 a1).bind fun t127 => (if (t126 == t127) = true then ((dict_Named.f a2).bind fun t128 => ((tinderref09_Named.f k a2).bind fun t129 => (some (t128 == t129)))) else (some false)))) = some r := by rw [if_pos rfl] at H; exact H
    clear H
    have H := H1
    clear H1
    replace H := Option.bind_eq_some_iff.mp H
    obtain ⟨t126, A60, H⟩ := H
    replace H : ((tinderref09_Sound.f k l0 a1).bind fun t127 => (if (t126 == t127) = true then ((dict_Named.f a2).bind fun t128 => ((tinderref09_Named.f k a2).bind fun t129 => (some (t128 == t129)))) else (some false))) = some r := H
    have A6 := Aside0.mk A60
    clear A60
    replace H := Option.bind_eq_some_iff.mp H
    obtain ⟨t127, A70, H⟩ := H
    replace H : (if (t126 == t127) = true then ((dict_Named.f a2).bind fun t128 => ((tinderref09_Named.f k a2).bind fun t129 => (some (t128 == t129)))) else (some false)) = some r := H
    have A7 := Aside0.mk A70
    clear A70
    by_cases c8 : (t126 == t127) = true
    · rw [if_pos c8] at H
      have c8b0 : (t126 == t127) = true := c8
      (try (have c8b1 : decide (t126 = t127) = true := by simpa using c8))
      (try (have c8b2 : (t126 == t127) = true := by simpa using c8))
      clear c8
      replace H := Option.bind_eq_some_iff.mp H
      obtain ⟨t128, A90, H⟩ := H
      replace H : ((tinderref09_Named.f k a2).bind fun t129 => (some (t128 == t129))) = some r := H
      have A9 := Aside0.mk A90
      clear A90
      replace H := Option.bind_eq_some_iff.mp H
      obtain ⟨t129, A100, H⟩ := H
      replace H : (some (t128 == t129)) = some r := H
      have A10 := Aside0.mk A100
      clear A100
      obtain rfl := Option.some.inj H
      go_enter Try.func3, Try.ntmps3
      go_wp2_with (first | ((with_reducible refine gate_callee (f := 9) rfl ?_); refine goesL_ (some 7) rfl rfl Try.func9 (by kernel_rfl) rfl #[] rfl (by (try simp only [List.map_toArray, List.map_cons, List.map_nil]); first | done | rfl | (simp only [List.length_drop, List.length_take]; rfl)) ?_; (with_reducible refine (tinderlaw09_alive.calls  true _ A4.out).mono ?_); rintro e w11 ⟨rfl, hb⟩; refine ⟨_, rfl, ?_⟩; have n0_ := Aside0.mk (below_step (by repeat (first | (with_reducible first | exact HB.out | apply below_alloc | apply pw_below_drewN | apply below_drew1) | exact HB.out)) hb); clear HB; have HB := n0_; clear n0_; (try clear hb); (try clear hb2); (try clear hk); (try clear hi)) | (go_at_call 10; (with_reducible refine (dict_Sound.calls k _ _ l0 a1 t126 _ ?side1 ?side2 A6.out).mono ?_); (case side1 => repeat (first | exact (Kd.C_below HR0.out HB.out) | (with_reducible refine Kd.C_alloc ?_ _) | (with_reducible refine Kd.C_drewN ?_ _) | (with_reducible refine Kd.C_drew ?_))); (case side2 => exact HC0.out); rintro e w12 ⟨rfl, hb⟩; have n0_ := Aside0.mk (below_step (by repeat (first | (with_reducible first | exact HB.out | apply below_alloc | apply pw_below_drewN | apply below_drew1) | exact HB.out)) hb); clear HB; have HB := n0_; clear n0_; (try clear hb); (try clear hb2); (try clear hk); (try clear hi)) | (go_at_call 11; (with_reducible refine (tinderref09_Sound.calls k _ _ l0 a1 t127 _ ?side1 ?side2 A7.out).mono ?_); (case side1 => repeat (first | exact (Kd.C_below HR0.out HB.out) | (with_reducible refine Kd.C_alloc ?_ _) | (with_reducible refine Kd.C_drewN ?_ _) | (with_reducible refine Kd.C_drew ?_))); (case side2 => exact HC0.out); rintro e w' ⟨rfl, ⟨nd, rfl⟩⟩) | (go_at_call 12; (with_reducible refine (dict_Named.calls a2 t128 _ A9.out).mono ?_); rintro e w13 ⟨rfl, hb⟩; have n0_ := Aside0.mk (below_step (by repeat (first | (with_reducible first | exact HB.out | apply below_alloc | apply pw_below_drewN | apply below_drew1) | exact HB.out)) hb); clear HB; have HB := n0_; clear n0_; (try clear hb); (try clear hb2); (try clear hk); (try clear hi)) | (go_at_call 13; (with_reducible refine (tinderref09_Named.calls k a2 t129 _ A10.out).mono ?_); rintro e w' ⟨rfl, ⟨nd, rfl⟩⟩))
      go_ret
      exact ⟨by first | rfl | (simp [errW_none, errW_some] <;> rfl) | (simp [*, errW_none, errW_some] <;> rfl), by repeat (first | (with_reducible first | exact HB.out | apply below_alloc | apply pw_below_drewN | apply below_drew1) | exact HB.out)⟩
    · rw [if_neg c8] at H
      have c8b0 : (t126 == t127) = false := by simpa using c8
      (try (have c8b1 : decide (t126 = t127) = false := by simpa using c8))
      (try (have c8b2 : (t126 == t127) = false := by simpa using c8))
      (try (have c8b3 : ¬ (t126 = t127) := by simpa using c8))
      clear c8
      obtain rfl := Option.some.inj H
      go_enter Try.func3, Try.ntmps3
      go_wp2_with (first | ((with_reducible refine gate_callee (f := 9) rfl ?_); refine goesL_ (some 7) rfl rfl Try.func9 (by kernel_rfl) rfl #[] rfl (by (try simp only [List.map_toArray, List.map_cons, List.map_nil]); first | done | rfl | (simp only [List.length_drop, List.length_take]; rfl)) ?_; (with_reducible refine (tinderlaw09_alive.calls  true _ A4.out).mono ?_); rintro e w14 ⟨rfl, hb⟩; refine ⟨_, rfl, ?_⟩; have n0_ := Aside0.mk (below_step (by repeat (first | (with_reducible first | exact HB.out | apply below_alloc | apply pw_below_drewN | apply below_drew1) | exact HB.out)) hb); clear HB; have HB := n0_; clear n0_; (try clear hb); (try clear hb2); (try clear hk); (try clear hi)) | (go_at_call 10; (with_reducible refine (dict_Sound.calls k _ _ l0 a1 t126 _ ?side1 ?side2 A6.out).mono ?_); (case side1 => repeat (first | exact (Kd.C_below HR0.out HB.out) | (with_reducible refine Kd.C_alloc ?_ _) | (with_reducible refine Kd.C_drewN ?_ _) | (with_reducible refine Kd.C_drew ?_))); (case side2 => exact HC0.out); rintro e w15 ⟨rfl, hb⟩; have n0_ := Aside0.mk (below_step (by repeat (first | (with_reducible first | exact HB.out | apply below_alloc | apply pw_below_drewN | apply below_drew1) | exact HB.out)) hb); clear HB; have HB := n0_; clear n0_; (try clear hb); (try clear hb2); (try clear hk); (try clear hi)) | (go_at_call 11; (with_reducible refine (tinderref09_Sound.calls k _ _ l0 a1 t127 _ ?side1 ?side2 A7.out).mono ?_); (case side1 => repeat (first | exact (Kd.C_below HR0.out HB.out) | (with_reducible refine Kd.C_alloc ?_ _) | (with_reducible refine Kd.C_drewN ?_ _) | (with_reducible refine Kd.C_drew ?_))); (case side2 => exact HC0.out); rintro e w' ⟨rfl, ⟨nd, rfl⟩⟩))
      go_ret
      exact ⟨by first | rfl | (simp [errW_none, errW_some] <;> rfl) | (simp [*, errW_none, errW_some] <;> rfl), by repeat (first | (with_reducible first | exact HB.out | apply below_alloc | apply pw_below_drewN | apply below_drew1) | exact HB.out)⟩
  · replace c5 := Bool.eq_false_iff.mpr c5
    subst c5
    have H1 : (some false) = some r := by rw [if_neg (show ¬ (false = true) by decide)] at H; exact H
    clear H
    have H := H1
    clear H1
    obtain rfl := Option.some.inj H
    go_enter Try.func3, Try.ntmps3
    go_wp2_with (first | ((with_reducible refine gate_callee (f := 9) rfl ?_); refine goesL_ (some 7) rfl rfl Try.func9 (by kernel_rfl) rfl #[] rfl (by (try simp only [List.map_toArray, List.map_cons, List.map_nil]); first | done | rfl | (simp only [List.length_drop, List.length_take]; rfl)) ?_; (with_reducible refine (tinderlaw09_alive.calls  false _ A4.out).mono ?_); rintro e w16 ⟨rfl, hb⟩; refine ⟨_, rfl, ?_⟩; have n0_ := Aside0.mk (below_step (by repeat (first | (with_reducible first | exact HB.out | apply below_alloc | apply pw_below_drewN | apply below_drew1) | exact HB.out)) hb); clear HB; have HB := n0_; clear n0_; (try clear hb); (try clear hb2); (try clear hk); (try clear hi)))
    go_ret
    exact ⟨by first | rfl | (simp [errW_none, errW_some] <;> rfl) | (simp [*, errW_none, errW_some] <;> rfl), by repeat (first | (with_reducible first | exact HB.out | apply below_alloc | apply pw_below_drewN | apply below_drew1) | exact HB.out)⟩

end Go.Proofs.Ytpalbpakeokimaa.PK
