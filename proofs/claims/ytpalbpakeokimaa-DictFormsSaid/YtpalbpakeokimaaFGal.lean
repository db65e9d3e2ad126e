/- tinder: a part of the proof, joined and pruned by wip/tools/prune.py out of: Gal -/
import Derived.Test.YtpalbpakeokimaaFGd
import Derived.Test.YtpalbpakeokimaaFGe
namespace Go.Proofs.Ytpalbpakeokimaa.PK
set_option linter.unusedVariables false
set_option linter.unusedSimpArgs false
open Go.RowKit Go.Proofs.YtpalbpakeokimaaW.PrintWords Go.Proofs.YtpalbpakeokimaaW.PrintLast Go.Proofs.YtpalbpakeokimaaW.PrintMore
theorem find_dup : lastP (findP ⟨#[100, 117, 112]⟩) words0 = (41, true) := by kernel_rfl
theorem code_dup : codeF [] 71 = (41, true) := by kernel_rfl
theorem ok_words0 : okAll words0 = true := by kernel_rfl
theorem tree_root : treeB [rootN] = true := by kernel_rfl
theorem words0_len : words0.length = 111 := by kernel_rfl
theorem insts_new : dict_instsRight.f 9 [] [] words0 [] 16 [rootN] (-1) [] (-1) ⟨#[]⟩ = some true := by
  simp [dict_instsRight.f, dict_instsRight.j0, dict_instsRight.l0, dict_instsRight.l1]
theorem words_new : dict_wordsRight.f [] [] words0 [] 16 [rootN] (-1) [] (-1) ⟨#[]⟩ = some true := by
  unfold dict_wordsRight.f
  rw [if_neg (by rw [words0_len]; omega), if_pos ok_words0]
  have hd : words0.drop 111 = [] := List.drop_eq_nil_of_le (by rw [words0_len]; exact Nat.le_refl _)
  unfold restO
  rw [hd]
  rfl
theorem formed_new : dict_Formed.f [] [] words0 [] 16 [rootN] (-1) [] (-1) ⟨#[]⟩ = some true := by
  unfold dict_Formed.f
  rw [if_neg (by decide), if_neg (by decide), if_neg (by decide), if_neg (by decide), if_neg (by decide), if_neg (by decide), if_neg (by rw [tree_root]; decide), if_neg (by decide), if_neg (by decide)]
  rw [anyK_of (f := fun k => dict_instsRight.f k [] [] words0 [] 16 [rootN] (-1) [] (-1) ⟨#[]⟩) (fun j => dict_instsRight.mono _ _ _ _ _ _ _ _ _ _ j) insts_new, Option.bind_some, if_pos rfl, words_new, Option.bind_some, if_pos rfl]
  rfl
theorem find_new : dict_Find.f [] [] words0 [] 16 [rootN] (-1) [] (-1) ⟨#[]⟩ ⟨#[100, 117, 112]⟩ = some (41, true) := congrArg some find_dup
theorem code_new : dict_Code.f [] [] words0 [] 16 [rootN] (-1) [] (-1) ⟨#[]⟩ 71 = some (41, true) := by
  unfold dict_Code.f
  rw [if_pos (by decide)]
  exact congrArg some code_dup
theorem new_reads (w : World) : Calls Try.prog 29 #[] w fun e w' => ∃ (A0 : Option Addr) (c0 : Nat) (A1 : Option Addr) (c1 : Nat) (A2 : Option Addr) (c2 : Nat) (A3 : Option Addr) (c3 : Nat) (A5 : Option Addr) (c5 : Nat) (A7 : Option Addr) (c7 : Nat), e = .returned (.agg #[.slice A0 0 c0, .slice A1 0 c1, .slice A2 words0.length c2, .slice A3 0 c3, .int .u32 16, .slice A5 1 c5, .int .i64 (-1), .slice A7 0 c7, .int .i64 (-1), .string (⟨#[]⟩ : ByteArray)]) ∧ (Kd.C (Kd.int .u32) w' A0 0 ([] : List Int) ∧ 0 ≤ c0) ∧ (Kd.C (Kd.int .u8) w' A1 0 ([] : List Int) ∧ 0 ≤ c1) ∧ (Kd.C k45 w' A2 words0.length words0 ∧ words0.length ≤ c2) ∧ (Kd.C (Kd.int .i64) w' A3 0 ([] : List Int) ∧ 0 ≤ c3) ∧ (Kd.C k92 w' A5 1 [rootN] ∧ 1 ≤ c5) ∧ (Kd.C k80 w' A7 0 ([] : List S80) ∧ 0 ≤ c7) ∧ Below w.heap.size w w' := by
  refine (dict_New.calls _ _ _ _ _ _ _ _ _ _ w rfl).mono ?_
  rintro e w' ⟨v0, v1, v2, v3, v5, v7, rfl, h0, h1, h2, h3, h5, h7, hb⟩
  obtain ⟨A0, c0, rfl, g0, r0⟩ := Kd.R_reads h0
  obtain ⟨A1, c1, rfl, g1, r1⟩ := Kd.R_reads h1
  obtain ⟨A2, c2, rfl, g2, r2⟩ := Kd.S_reads h2
  obtain ⟨A3, c3, rfl, g3, r3⟩ := Kd.R_reads h3
  obtain ⟨A5, c5, rfl, g5, r5⟩ := Kd.R_reads h5
  obtain ⟨A7, c7, rfl, g7, r7⟩ := Kd.S_reads h7
  exact ⟨A0, c0, A1, c1, A2, c2, A3, c3, A5, c5, A7, c7, rfl, ⟨r0, g0⟩, ⟨r1, g1⟩, ⟨r2, g2⟩, ⟨r3, g3⟩, ⟨r5, g5⟩, ⟨r7, g7⟩, hb⟩
def tinderlaw09_alive.f  : Option (Bool) := some true
theorem alive_true : tinderlaw09_alive.f = some true := rfl
set_option maxHeartbeats 8000000 in
set_option maxRecDepth 100000 in
theorem tinderlaw09_alive.calls  (r : Bool) (w : World) (h : tinderlaw09_alive.f  = some r) :
    Calls Try.prog 9 #[] w fun e w' => e = .returned (.bool r) ∧ Below w.heap.size w w' := by
  obtain rfl := Option.some.inj h
  clear h
  have L := Aside0.mk (Below.refl w.heap.size w)
  go_enter Try.func9, Try.ntmps9
  go_wp2_with (first | ((go_at_call 29; refine (new_reads _).mono ?_; rintro e wN ⟨A0, c0, A1, c1, A2, c2, A3, c3, A5, c5, A7, c7, rfl, ⟨hr0, hc0⟩, ⟨hr1, hc1⟩, ⟨hr2, hc2⟩, ⟨hr3, hc3⟩, ⟨hr5, hc5⟩, ⟨hr7, hc7⟩, hbN⟩; have L2 := Aside0.mk (below_then L.out L.out.size hbN); clear L hbN; have L := L2; clear L2; have HR0 := Aside0.mk hr0; have HC0 := Aside0.mk hc0; clear hr0 hc0; have HR1 := Aside0.mk hr1; have HC1 := Aside0.mk hc1; clear hr1 hc1; have HR2 := Aside0.mk hr2; have HC2 := Aside0.mk hc2; clear hr2 hc2; have HR3 := Aside0.mk hr3; have HC3 := Aside0.mk hc3; clear hr3 hc3; have HR5 := Aside0.mk hr5; have HC5 := Aside0.mk hc5; clear hr5 hc5; have HR7 := Aside0.mk hr7; have HC7 := Aside0.mk hc7; clear hr7 hc7)) | ((go_at_call 14; refine (dict_Find.calls _ _ [] _ _ [] _ _ words0 _ _ [] 16 _ _ [rootN] (-1) _ _ [] (-1) ⟨#[]⟩ ⟨#[100, 117, 112]⟩ 41 true _ HR0.out HC0.out HR1.out HC1.out HR2.out HC2.out HR3.out HC3.out HR5.out HC5.out HR7.out HC7.out find_new).mono ?_; rintro e wF ⟨rfl, hbF⟩; have L2 := Aside0.mk (below_then L.out L.out.size hbF); clear L hbF; have L := L2; clear L2)) | ((go_at_call 18; refine (dict_Code.calls _ _ [] _ _ [] _ _ words0 _ _ [] 16 _ _ [rootN] (-1) _ _ [] (-1) ⟨#[]⟩ 71 41 true _ HR0.out HC0.out HR1.out HC1.out HR2.out HC2.out HR3.out HC3.out HR5.out HC5.out HR7.out HC7.out code_new).mono ?_; rintro e wF ⟨rfl, hbF⟩; have L2 := Aside0.mk (below_then L.out L.out.size hbF); clear L hbF; have L := L2; clear L2)) | ((go_at_call 20; refine (dict_Formed.calls _ _ [] _ _ [] _ _ words0 _ _ [] 16 _ _ [rootN] (-1) _ _ [] (-1) ⟨#[]⟩ true _ HR0.out HC0.out HR1.out HC1.out HR2.out HC2.out HR3.out HC3.out HR5.out HC5.out HR7.out HC7.out formed_new).mono ?_; rintro e wF ⟨rfl, hbF⟩; have L2 := Aside0.mk (below_then L.out L.out.size hbF); clear L hbF; have L := L2; clear L2)))
  go_ret
  exact ⟨rfl, L.out⟩
end Go.Proofs.Ytpalbpakeokimaa.PK
