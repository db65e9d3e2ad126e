/- tinderlaw09.DictFinds returns true for every input, and each argument reads afterwards as it read before. -/
import Derived.Test.YtpalbpakeokimaaRows
import Derived.Test.YtpalbpakeokimaaPf
import Derived.Test.YtpalbpakeokimaaGw
import Derived.WalkKit
import Derived.ProofKit
import Derived.OpenShut
import Derived.ShutString
import Derived.ChangeOld
import Derived.Below
import Derived.SizedLaws
namespace Go.Proofs.Ytpalbpakeokimaa.dictFinds
open Go.ChangeShapes Go.WideShapes Go.ChangeAt Go.RowKit Go.Proofs.Ytpalbpakeokimaa.PK Go.Proofs.YtpalbpakeokimaaW.PrintWords
open Go.ChangeMaps (open_string shut_string)
set_option linter.unusedVariables false
theorem own : ownKnob Try.prog.godebug = none := by kernel_rfl
theorem laidOut : laidOutB Try.prog = true := by kernel_rfl
set_option maxRecDepth 100000 in
theorem lifted (os : Os) (started : os.Started) (H : Type) (enc : TypeId × Value → H) :
    ReturnsInHanded {} Try.checked os 4 .any (Rows.dictFindsSpec.pre6 enc Try.prog Try.f4 Rows.dictFindsRow.domain false) (Rows.dictFindsSpec.post enc Try.prog Try.f4 false true false false) := by
  refine returnsInHanded_of_change_sized (C := Try.checked) own started (by kernel_rfl) Try.func4
    (ChangeSpec.witness6 (enc := enc) (C := Try.checked) false ⟨#[], #[.agg #[.slice none 0 0, .slice none 0 0, .slice none 0 0, .slice none 0 0, .int .u32 0, .slice none 0 0, .int .i64 0, .slice none 0 0, .int .i64 0, .string ByteArray.empty], .string ByteArray.empty, .int .i64 0], []⟩ 8 (by kernel_rfl) (by kernel_rfl) (by kernel_rfl) (by kernel_rfl)) ?_
  intro W base args ds gs before hval0 hW hcnd hsz0 _
  have hval : ∀ (j : Nat) t v, Try.f4.params[j]? = some t → args[j]? = some v → Value.okWide Try.prog W .any base t v := hval0
  have hW' := hW
  obtain ⟨p, q, hA0, hV, rfl, hfz, hnd⟩ := hW
  have hA : DataW.TrodAll enc Try.prog W 0 (fun _ => true) true Try.f4.params.toList args.toList ds p := hA0
  rw [Try.params4] at hA hval
  obtain ⟨v0, vs0, d0, ds0, p0, q0, hargs, rfl, rfl, h0, r0⟩ := trodAll_cons hA
  obtain ⟨v1, vs1, d1, ds1, p1, q1, rfl, rfl, rfl, h1, r1⟩ := trodAll_cons r0
  obtain ⟨v2, vs2, d2, ds2, p2, q2, rfl, rfl, rfl, h2, r2⟩ := trodAll_cons r1
  obtain ⟨rfl, rfl, rfl⟩ := trodAll_nil r2
  obtain rfl : args = #[v0, v1, v2] := by cases args; simp_all
  obtain ⟨rfl, rfl⟩ := trodVars_none hV
  have k0 := h0
  have lt0 : ∀ x ∈ p0, x.block < W.heap.size := by obtain ⟨m, hm⟩ := k0; exact DataW.trod_lt m _ _ _ hm
  obtain ⟨A0, c0, l0, A1, c1, l1, A2, c2, l2, A3, c3, l3, a4, A5, c5, l5, a6, A7, c7, l7, a8, a9, rfl, ⟨hr0, hc0⟩, ⟨hr1, hc1⟩, ⟨hr2, hc2⟩, ⟨hr3, hc3⟩, ⟨hr5, hc5⟩, ⟨hr7, hc7⟩, i0, i1, i2, i3, i4, i5, i6, i7, i8, i9⟩ := open_machine (hval 0 35 v0 rfl rfl) h0
  obtain ⟨a1, rfl, rfl, rfl, y1⟩ := open_string Try.underlying9 (hval 1 9 v1 rfl rfl) h1
  obtain ⟨a2, rfl, rfl, rfl, w2⟩ := open_int Try.underlying3 (hval 2 3 v2 rfl rfl) h2
  clear hA0 hval0 hsz0
  have hb2 : a2 ≤ 9223372036854775807 := by have := w2; simp [Lit.wf] at this; omega
  have hb0 : l2.length ≤ 9223372036854775807 := by have := i2.1; unfold maxLen at this; omega
  obtain ⟨fi, fb, fd, fr⟩ := find_both l0 l1 l2 l3 a4 l5 a6 l7 a8 a9 a1 hb0 (2 * l2.length + 2 + 112) (by omega)
  obtain ⟨mi, mb, md, mr⟩ := meth_both l0 l1 l2 l3 a4 l5 a6 l7 a8 a9 a1 a2 hb0 (2 * l2.length + 2 + 112) (by omega)
  obtain ⟨⟨ci, cb⟩, cd, cr⟩ := code_both l0 l1 l2 l3 a4 l5 a6 l7 a8 a9 a2 hb2 (2 * l2.length + 2 + 112) (by omega)
  refine (finds_walk _ _ _ l0 _ _ l1 _ _ l2 _ _ l3 a4 _ _ l5 a6 _ _ l7 a8 a9 a1 a2 fi mi ci fb mb cb W hr0 hc0 hr1 hc1 hr2 hc2 hr3 hc3 hr5 hc5 hr7 hc7 fd fr md mr cd cr).mono fun e W' ⟨he, bel⟩ => ?_
  subst he
  exact ⟨_, rfl, _, _, _, [], _, [], hW', trodAll_mk1 (shut_bool Try.underlying4 _), (trodAll_cons_mk (Below.trod laidOut (by kernel_rfl) (of_decide_eq_true (by kernel_rfl)) k0 bel lt0) (trodAll_cons_mk (shut_string Try.underlying9 y1) (trodAll_cons_mk (shut_int Try.underlying3 w2) trodAll_mk0))), rfl, bel.frame _, fun h => by cases h⟩
theorem over : Rows.dictFindsRow.holds Try.pinned (OpenSpec.ofChange Rows.dictFindsSpec) :=
  OpenClaim.holds_of_wide 4 Try.f4 rfl rfl rfl rfl rfl rfl rfl ⟨rfl, rfl, rfl, rfl, rfl⟩ rfl rfl rfl rfl rfl (by kernel_rfl) Try.func4 (by kernel_rfl)
    (of_decide_eq_true (by kernel_rfl)) (by unfold Func.isWrapper; first | (rw [if_pos (by decide +kernel)]; kernel_rfl) | (rw [if_neg (by decide +kernel)]; exact ⟨rfl, rfl⟩))
    (fun os started H enc _ => lifted os started H enc)
theorem proved : Rows.DictFindsSaid := over
end Go.Proofs.Ytpalbpakeokimaa.dictFinds
namespace Go.Proofs.Ytpalbpakeokimaa
/-- The row, under a short name, for the claim. -/
theorem dictFinds_holds : Rows.DictFindsSaid := dictFinds.proved
#print axioms dictFinds_holds
end Go.Proofs.Ytpalbpakeokimaa
