/- tinderlaw09.DictNewest returns true for every input, and each argument reads afterwards as it read before. -/
import Derived.Test.YtpalbpakeokimaaPg
import Derived.Test.YtpalbpakeokimaaLn
import Derived.Test.YtpalbpakeokimaaRows
import Derived.Test.YtpalbpakeokimaaGv
import Derived.WalkKit
import Derived.ProofKit
import Derived.OpenShut
import Derived.ShutString
import Derived.ChangeOld
import Derived.Below
import Derived.SizedLaws
namespace Go.Proofs.Ytpalbpakeokimaa.PK
set_option linter.unusedVariables false
set_option linter.unusedSimpArgs false
open Go.RowKit Go.Proofs.YtpalbpakeokimaaW.PrintWords Go.Proofs.YtpalbpakeokimaaW.PrintLast Go.Proofs.YtpalbpakeokimaaW.PrintMore
/-- the newest word below m for which p holds -/
def lastM (p : S45 → Bool) (l : List S45) : Nat → Int × Bool
  | 0 => (0, false)
  | m + 1 => if p (l.getD m z45) then ((m : Int), true) else lastM p l m
theorem lastP_eqM (p : S45 → Bool) (l : List S45) : lastP p l = lastM p l l.length := by
  have key : ∀ m, m ≤ l.length → (match ((List.finRange l.length).take m).reverse.find? (fun i => p (l.getD i.val z45)) with | some i => ((i.val : Int), true) | none => (0, false)) = lastM p l m := by
    intro m
    induction m with
    | zero => intro _; rfl
    | succ m ih =>
      intro hm
      have ht : (List.finRange l.length).take (m + 1) = (List.finRange l.length).take m ++ [⟨m, by omega⟩] := by
        rw [List.take_succ_eq_append_getElem (by simp; omega)]
        simp
      rw [ht, List.reverse_append, List.reverse_singleton, List.singleton_append, List.find?_cons]
      unfold lastM
      cases hp : p (l.getD m z45) with
      | true => simp [hp]
      | false => simp only [hp, Bool.false_eq_true, if_false]; exact ih (by omega)
  have := key l.length (Nat.le_refl _)
  rw [List.take_of_length_le (by simp)] at this
  exact this
theorem lastM_more (p : S45 → Bool) (l : List S45) (x : S45) : ∀ m, m ≤ l.length → lastM p (l ++ [x]) m = lastM p l m
  | 0, _ => rfl
  | m + 1, h => by
    unfold lastM
    rw [lastM_more p l x m (by omega), List.getD_eq_getElem?_getD, List.getElem?_append_left (by omega), ← List.getD_eq_getElem?_getD]
theorem lastP_more (p : S45 → Bool) (l : List S45) (x : S45) (hx : p x = false) : lastP p (l ++ [x]) = lastP p l := by
  rw [lastP_eqM, lastP_eqM, List.length_append, List.length_singleton]
  have h : (l ++ [x]).getD l.length z45 = x := by
    rw [List.getD_eq_getElem?_getD, List.getElem?_append_right (Nat.le_refl _), Nat.sub_self]
    rfl
  have h2 : lastM p (l ++ [x]) (l.length + 1) = lastM p (l ++ [x]) l.length := by
    rw [lastM, h, hx]
    rfl
  rw [h2]
  exact lastM_more p l x l.length (Nat.le_refl _)
theorem define_tot (l0 l1 : List Int) (l2 : List S45) (l3 : List Int) (a4 : Int) (l5 : List S92) (a6 : Int) (l7 : List S80) (a8 : Int) (a9 n0 : ByteArray) (n1 n2 n3 : Int) (l4 : List S57) :
    ∃ k, dict_Define.f k l0 l1 l2 l3 a4 l5 a6 l7 a8 a9 n0 n1 n2 n3 l4 = some ([], [], [], [], 0, [], 0, [], 0, (⟨#[]⟩ : ByteArray), 0, 1) ∨
      dict_Define.f k l0 l1 l2 l3 a4 l5 a6 l7 a8 a9 n0 n1 n2 n3 l4 = some ([], [], [], [], 0, [], 0, [], 0, (⟨#[]⟩ : ByteArray), 0, 22) ∨
      dict_Define.f k l0 l1 l2 l3 a4 l5 a6 l7 a8 a9 n0 n1 n2 n3 l4 = some (l0, l1, l2 ++ [⟨n0, n1, n2, n3, l4⟩], l3, a4, l5, a6, l7, a8, a9, (l2.length : Int), 0) := by
  refine ⟨4 * l4.length + 5 + 1, ?_⟩
  unfold dict_Define.f
  obtain ⟨b, hb, hbt⟩ := formed_tot l0 l1 l2 l3 a4 l5 a6 l7 a8 a9
  rw [hb, Option.bind_some]
  cases b with
  | false =>
    left
    rw [if_neg (by simp)]
    unfold dict_Define.j0
    dsimp only
    rw [if_pos rfl]
  | true =>
    rw [if_pos rfl]
    obtain ⟨hf, hl⟩ := hbt rfl
    obtain ⟨b2, hb2, hbt2⟩ := right_tot n0 n1 n2 n3 l4 (wrap64 ((l2.length : Int) + 1)) l5 (4 * l4.length + 5 + 1) (by omega)
    rw [hb2, Option.bind_some]
    unfold dict_Define.j0
    dsimp only
    cases b2 with
    | false => left; exact if_pos rfl
    | true =>
      have hl4 := hbt2 rfl
      rw [if_neg (by simp)]
      by_cases h640 : (l2.length : Int) = 640
      · right; left; rw [if_pos h640]
      · right; right
        rw [if_neg h640]
        unfold dict_Copy.f
        rw [if_pos hf, Option.bind_some]
        unfold api_Op.f
        rw [if_pos (by omega), Option.bind_some]
        rw [if_pos (by show l2.length < _; omega)]
end Go.Proofs.Ytpalbpakeokimaa.PK
namespace Go.Proofs.Ytpalbpakeokimaa.dictNewest
open Go.ChangeShapes Go.WideShapes Go.ChangeAt Go.RowKit Go.Proofs.Ytpalbpakeokimaa.PK Go.Proofs.YtpalbpakeokimaaW.PrintWords
open Go.ChangeMaps (open_string shut_string)
set_option linter.unusedVariables false
theorem own : ownKnob Try.prog.godebug = none := by kernel_rfl
theorem laidOut : laidOutB Try.prog = true := by kernel_rfl
section
variable {H : Type} {enc : TypeId × Value → H} {w : World} {base : Nat} {spare : Nat → Bool} {held : Bool}
set_option linter.constructorNameAsVariable false
set_option maxRecDepth 100000 in
theorem open_word {v : Value} {d : DataW H} {ps : List MemPlace} {r : Reach} {b0 : Nat} (hv : Value.okWide Try.prog w r b0 45 v) (h : DataW.Trod enc Try.prog w base spare held 45 v d ps) :
    ∃ (n0 : ByteArray) (n1 n2 n3 : Int) (A4 : Option Addr) (c4 : Nat) (l4 : List S57), v = .agg #[.string n0, .int .i64 n1, .int .i64 n2, .int .u32 n3, .slice A4 l4.length c4] ∧ (Kd.C k57 w A4 l4.length l4 ∧ l4.length ≤ c4) := by
  obtain ⟨cs, rfl, _⟩ := Go.WideShapes.okWide_struct Try.underlying45 hv
  obtain ⟨fuel, hf⟩ := h
  obtain ⟨⟨n0, n1, n2, n3, l4⟩, hK, hI⟩ := opens45.2 fuel _ _ hf
  obtain ⟨A4, c4, hcs, g, r⟩ := k45_open hK
  have hcs' : cs.toList = _ := hcs
  obtain rfl : cs = #[.string n0, .int .i64 n1, .int .i64 n2, .int .u32 n3, .slice A4 l4.length c4] := Array.ext' hcs'
  exact ⟨n0, n1, n2, n3, A4, c4, l4, rfl, r, g⟩
end
set_option maxRecDepth 100000 in
theorem lifted (os : Os) (started : os.Started) (H : Type) (enc : TypeId × Value → H) :
    ReturnsInHanded {} Try.checked os 8 .any (Rows.dictNewestSpec.pre6 enc Try.prog Try.f8 Rows.dictNewestRow.domain false) (Rows.dictNewestSpec.post enc Try.prog Try.f8 false true false false) := by
  refine returnsInHanded_of_change_sized (C := Try.checked) own started (by kernel_rfl) Try.func8
    (ChangeSpec.witness6 (enc := enc) (C := Try.checked) false ⟨#[], #[.agg #[.slice none 0 0, .slice none 0 0, .slice none 0 0, .slice none 0 0, .int .u32 0, .slice none 0 0, .int .i64 0, .slice none 0 0, .int .i64 0, .string ByteArray.empty], .agg #[.string ByteArray.empty, .int .i64 0, .int .i64 0, .int .u32 0, .slice none 0 0], .string ByteArray.empty], []⟩ 8 (by kernel_rfl) (by kernel_rfl) (by kernel_rfl) (by kernel_rfl)) ?_
  intro W base args ds gs before hval0 hW hcnd hsz0 _
  have hval : ∀ (j : Nat) t v, Try.f8.params[j]? = some t → args[j]? = some v → Value.okWide Try.prog W .any base t v := hval0
  have hW' := hW
  obtain ⟨p, q, hA0, hV, rfl, hfz, hnd⟩ := hW
  have hA : DataW.TrodAll enc Try.prog W 0 (fun _ => true) true Try.f8.params.toList args.toList ds p := hA0
  rw [Try.params8] at hA hval
  obtain ⟨v0, vs0, d0, ds0, p0, q0, hargs, rfl, rfl, h0, r0⟩ := trodAll_cons hA
  obtain ⟨v1, vs1, d1, ds1, p1, q1, rfl, rfl, rfl, h1, r1⟩ := trodAll_cons r0
  obtain ⟨v2, vs2, d2, ds2, p2, q2, rfl, rfl, rfl, h2, r2⟩ := trodAll_cons r1
  obtain ⟨rfl, rfl, rfl⟩ := trodAll_nil r2
  obtain rfl : args = #[v0, v1, v2] := by cases args; simp_all
  obtain ⟨rfl, rfl⟩ := trodVars_none hV
  have k0 := h0
  have lt0 : ∀ x ∈ p0, x.block < W.heap.size := by obtain ⟨m, hm⟩ := k0; exact DataW.trod_lt m _ _ _ hm
  obtain ⟨A0, c0, l0, A1, c1, l1, A2, c2, l2, A3, c3, l3, a4, A5, c5, l5, a6, A7, c7, l7, a8, a9, rfl, ⟨hr0, hc0⟩, ⟨hr1, hc1⟩, ⟨hr2, hc2⟩, ⟨hr3, hc3⟩, ⟨hr5, hc5⟩, ⟨hr7, hc7⟩, i0, i1, i2, i3, i4, i5, i6, i7, i8, i9⟩ := open_machine (hval 0 35 v0 rfl rfl) h0
  have k1 := h1
  have lt1 : ∀ x ∈ p1, x.block < W.heap.size := by obtain ⟨m, hm⟩ := k1; exact DataW.trod_lt m _ _ _ hm
  obtain ⟨n0, n1, n2, n3, A4, c4, l4, rfl, ⟨hr4, hc4⟩⟩ := open_word (hval 1 45 v1 rfl rfl) h1
  obtain ⟨other, rfl, rfl, rfl, y1⟩ := open_string Try.underlying9 (hval 2 9 v2 rfl rfl) h2
  clear hA0 hval0 hsz0
  have done : Calls Try.prog 8 #[.agg #[.slice A0 l0.length c0, .slice A1 l1.length c1, .slice A2 l2.length c2, .slice A3 l3.length c3, .int .u32 a4, .slice A5 l5.length c5, .int .i64 a6, .slice A7 l7.length c7, .int .i64 a8, .string a9], .agg #[.string n0, .int .i64 n1, .int .i64 n2, .int .u32 n3, .slice A4 l4.length c4], .string other] W fun e w' => e = .returned (.bool true) ∧ Below W.heap.size W w' := by
    obtain ⟨k, hd | hd | hd⟩ := define_tot l0 l1 l2 l3 a4 l5 a6 l7 a8 a9 n0 n1 n2 n3 l4
    · exact newest_no_a k A0 c0 l0 A1 c1 l1 A2 c2 l2 A3 c3 l3 A5 c5 l5 A7 c7 l7 a4 a6 a8 a9 n0 n1 n2 n3 A4 c4 l4 other W hr0 hc0 hr1 hc1 hr2 hc2 hr3 hc3 hr5 hc5 hr7 hc7 hr4 hc4 hd
    · exact newest_no_b k A0 c0 l0 A1 c1 l1 A2 c2 l2 A3 c3 l3 A5 c5 l5 A7 c7 l7 a4 a6 a8 a9 n0 n1 n2 n3 A4 c4 l4 other W hr0 hc0 hr1 hc1 hr2 hc2 hr3 hc3 hr5 hc5 hr7 hc7 hr4 hc4 hd
    · cases hn : (other.toList == n0.toList) with
      | true => exact newest_same k A0 c0 l0 A1 c1 l1 A2 c2 l2 A3 c3 l3 A5 c5 l5 A7 c7 l7 a4 a6 a8 a9 n0 n1 n2 n3 A4 c4 l4 other W _ _ _ _ _ _ _ _ _ _ _ hr0 hc0 hr1 hc1 hr2 hc2 hr3 hc3 hr5 hc5 hr7 hc7 hr4 hc4 hd hn
      | false =>
        have hx : (n0.toList == other.toList) = false := by
          rw [← hn, Bool.eq_iff_iff]
          simp only [beq_iff_eq]
          exact eq_comm
        have e1 : lastP (findP other) (l2 ++ [⟨n0, n1, n2, n3, l4⟩]) = lastP (findP other) l2 := lastP_more _ _ _ (by unfold findP; simp only; rw [hx, Bool.and_false])
        have e2 : lastP (methP n1 other) (l2 ++ [⟨n0, n1, n2, n3, l4⟩]) = lastP (methP n1 other) l2 := lastP_more _ _ _ (by unfold methP; simp only; rw [hx]; simp)
        exact newest_other k A0 c0 l0 A1 c1 l1 A2 c2 l2 A3 c3 l3 A5 c5 l5 A7 c7 l7 a4 a6 a8 a9 n0 n1 n2 n3 A4 c4 l4 other W _ _ _ _ _ _ _ _ _ _ _ (lastP (findP other) l2).1 (lastP (methP n1 other) l2).1 (lastP (findP other) l2).2 (lastP (methP n1 other) l2).2 hr0 hc0 hr1 hc1 hr2 hc2 hr3 hc3 hr5 hc5 hr7 hc7 hr4 hc4 hd hn
          (by unfold dict_Find.f; rw [e1]) (by unfold dict_Find.f; rfl) (by unfold dict_Method.f; rw [e2]) (by unfold dict_Method.f; rfl)
  refine done.mono fun e W' ⟨he, bel⟩ => ?_
  subst he
  exact ⟨_, rfl, _, _, _, [], _, [], hW', trodAll_mk1 (shut_bool Try.underlying4 _), (trodAll_cons_mk (Below.trod laidOut (by kernel_rfl) (of_decide_eq_true (by kernel_rfl)) k0 bel lt0) (trodAll_cons_mk (Below.trod laidOut (by kernel_rfl) (of_decide_eq_true (by kernel_rfl)) k1 bel lt1) (trodAll_cons_mk (shut_string Try.underlying9 y1) trodAll_mk0))), rfl, bel.frame _, fun h => by cases h⟩
theorem over : Rows.dictNewestRow.holds Try.pinned (OpenSpec.ofChange Rows.dictNewestSpec) :=
  OpenClaim.holds_of_wide 8 Try.f8 rfl rfl rfl rfl rfl rfl rfl ⟨rfl, rfl, rfl, rfl, rfl⟩ rfl rfl rfl rfl rfl (by kernel_rfl) Try.func8 (by kernel_rfl)
    (of_decide_eq_true (by kernel_rfl)) (by unfold Func.isWrapper; first | (rw [if_pos (by decide +kernel)]; kernel_rfl) | (rw [if_neg (by decide +kernel)]; exact ⟨rfl, rfl⟩))
    (fun os started H enc _ => lifted os started H enc)
theorem proved : Rows.DictNewestSaid := over
end Go.Proofs.Ytpalbpakeokimaa.dictNewest
namespace Go.Proofs.Ytpalbpakeokimaa
/-- The row, under a short name, for the claim. -/
theorem dictNewest_holds : Rows.DictNewestSaid := dictNewest.proved
#print axioms dictNewest_holds
end Go.Proofs.Ytpalbpakeokimaa
