/- tinder: a part of the proof, joined and pruned by wip/tools/prune.py out of: Gsw -/
import Derived.Test.YtpalbpakeokimaaFGri
import Derived.Test.YtpalbpakeokimaaFGr8
import Derived.Test.YtpalbpakeokimaaFK64
import Derived.Test.YtpalbpakeokimaaFPm
import Derived.Test.YtpalbpakeokimaaFPg
import Derived.Test.YtpalbpakeokimaaFGs
namespace Go.Proofs.Ytpalbpakeokimaa.PK
set_option linter.unusedVariables false
set_option linter.unusedSimpArgs false
open Go.RowKit Go.Proofs.YtpalbpakeokimaaW.PrintWords Go.Proofs.YtpalbpakeokimaaW.PrintLast Go.Proofs.YtpalbpakeokimaaW.PrintMore
theorem wordF_j0 (x28 : Bool) (s : ByteArray) (n kd v : Int) (l : List S57) (m : Int) (t : List S92) (k : Nat) (hk : 4 * l.length + 5 ≤ k) (hn : x28 = false → n < (t.length : Int)) (hkd : ¬ kd < 2 ∧ ¬ kd > 7) :
    ∃ b, dict_right.j0 k m t x28 s n kd v l = some b ∧ tinderref09_wordFormed.j0 k m t x28 s n kd v l = some b := by
  obtain ⟨k', rfl⟩ : ∃ k', k = k' + 1 := ⟨k - 1, by omega⟩
  unfold dict_right.j0 tinderref09_wordFormed.j0
  dsimp only
  cases x28 with
  | true => exact ⟨false, by simp, by simp⟩
  | false =>
    have hn' := hn rfl
    rw [if_neg Bool.false_ne_true, if_neg Bool.false_ne_true]
    by_cases e2 : kd = 2
    · rw [if_pos e2, if_pos e2]
      by_cases ev : v = 0
      · rw [if_pos ev, if_pos ev]
        obtain ⟨b, hb, hb2⟩ := sound_both l m k' (by omega)
        rw [hb, hb2]
        exact ⟨b, rfl, rfl⟩
      · rw [if_neg ev, if_neg ev]; exact ⟨false, rfl, rfl⟩
    rw [if_neg e2, if_neg e2]
    by_cases e6 : kd = 6
    · rw [if_pos e6, if_pos e6]
      by_cases el : (l.length : Int) = 0
      · rw [if_pos el]
        by_cases ec : wrap64 v ≥ m
        · rw [if_pos ec]; exact ⟨false, by rw [decide_eq_false (by omega)], rfl⟩
        · rw [if_neg ec]; exact ⟨true, by rw [decide_eq_true (by omega)], by rw [beq_iff_eq.2 el]⟩
      · rw [if_neg el]
        refine ⟨false, rfl, ?_⟩
        by_cases ec : wrap64 v ≥ m
        · rw [if_pos ec]
        · rw [if_neg ec, beq_eq_false_iff_ne.2 el]
    rw [if_neg e6, if_neg e6]
    by_cases e7 : kd = 7
    · rw [if_pos e7, if_pos e7]
      by_cases en : n < 0
      · rw [if_pos en]
        by_cases el : (l.length : Int) = 0
        · rw [if_pos el, if_neg (by omega)]; exact ⟨false, rfl, rfl⟩
        · rw [if_neg el]; exact ⟨false, rfl, rfl⟩
      · rw [if_neg en, if_pos (show 0 ≤ n by omega), if_pos hn']
        by_cases el : (l.length : Int) = 0
        · rw [if_pos el, if_pos (show n ≥ 0 by omega), if_pos (show 0 ≤ n by omega), if_pos hn']
          by_cases ec : wrap64 v ≥ ((rd_T92 t n).f4.length : Int)
          · rw [if_pos ec]; exact ⟨false, by rw [decide_eq_false (by omega)], rfl⟩
          · rw [if_neg ec]; exact ⟨true, by rw [decide_eq_true (by omega)], by rw [beq_iff_eq.2 el]⟩
        · rw [if_neg el]
          refine ⟨false, rfl, ?_⟩
          by_cases ec : wrap64 v ≥ ((rd_T92 t n).f4.length : Int)
          · rw [if_pos ec, if_pos (show 0 ≤ n by omega), if_pos hn']
          · rw [if_neg ec, beq_eq_false_iff_ne.2 el, if_pos (show 0 ≤ n by omega), if_pos hn']
    rw [if_neg e7, if_neg e7]
    by_cases e3 : kd = 3
    · rw [if_pos e3]; exact ⟨_, rfl, rfl⟩
    rw [if_neg e3]
    by_cases e4 : kd = 4
    · rw [if_pos e4]; exact ⟨_, rfl, rfl⟩
    rw [if_neg e4]
    by_cases e5 : kd = 5
    · rw [if_pos e5]; exact ⟨_, rfl, rfl⟩
    omega
theorem right_kind (x28 : Bool) (s : ByteArray) (n kd v : Int) (l : List S57) (m : Int) (t : List S92) (k : Nat) (hk : 1 ≤ k) (hkd : kd < 2 ∨ kd > 7) : dict_right.j0 k m t x28 s n kd v l = some false := by
  obtain ⟨k', rfl⟩ : ∃ k', k = k' + 1 := ⟨k - 1, by omega⟩
  unfold dict_right.j0
  dsimp only
  cases x28 with
  | true => rfl
  | false => rw [if_neg (by simp), if_neg (by omega), if_neg (by omega), if_neg (by omega), if_neg (by omega), if_neg (by omega), if_neg (by omega)]
theorem wordF_both (s : ByteArray) (hs : s.size ≤ 9223372036854775807) (n kd v : Int) (l : List S57) (m : Int) (t : List S92) (k : Nat) (hk : 4 * l.length + 5 ≤ k) (hk2 : s.size + 1 ≤ k) : ∃ b, dict_right.f k s n kd v l m t = some b ∧ tinderref09_wordFormed.f k s n kd v l m t = some b := by
  by_cases hkd : kd < 2 ∨ kd > 7
  · refine ⟨false, ?_, ?_⟩
    · unfold dict_right.f
      have hj := fun x28 => right_kind x28 s n kd v l m t k (by omega) hkd
      simp only [hj]
      unfold dict_Named.f
      simp only [Option.bind_some, ite_self]
    · obtain ⟨k', rfl⟩ : ∃ k', k = k' + 1 := ⟨k - 1, by omega⟩
      unfold tinderref09_wordFormed.f
      have hj : tinderref09_wordFormed.j0 (k' + 1) m t true s n kd v l = some false := by unfold tinderref09_wordFormed.j0; rfl
      rcases hkd with h | h
      · rw [if_pos h, hj]
      · by_cases h2 : kd < 2
        · rw [if_pos h2, hj]
        · rw [if_neg h2, if_pos h, hj]
  · have hk1 : ¬ kd < 2 ∧ ¬ kd > 7 := by omega
    unfold dict_right.f tinderref09_wordFormed.f
    rw [if_neg hk1.1, if_neg hk1.2, named_both s hs k hk2]
    have d := wordF_j0 (decide (n ≥ (t.length : Int))) s n kd v l m t k hk (fun h => by have := of_decide_eq_false h; omega) hk1
    have e := wordF_j0 true s n kd v l m t k hk (fun h => by cases h) hk1
    by_cases h0 : s.toList = ([] : List UInt8)
    · rw [if_pos h0, if_pos h0]
      by_cases h1 : n < -1
      · rw [if_pos h1, if_pos h1]; exact e
      · rw [if_neg h1, if_neg h1]; exact d
    · rw [if_neg h0, if_neg h0]
      unfold dict_Named.f
      simp only [Option.bind_some]
      split
      · by_cases h1 : n < -1
        · rw [if_pos h1, if_pos h1]; exact e
        · rw [if_neg h1, if_neg h1]; exact d
      · exact e
noncomputable def wordV9 (n : Int) (t : List S92) (x : S45) : Bool := (rightO n t x) == some true
theorem word46 (x : S45) (hx : x.f0.size ≤ 9223372036854775807) (n : Int) (t : List S92) (ca : List Value) (A9 : Option Addr) (c9 : Nat) (W : World) (hk : k45.K W x ca) (ht : Kd.C k92 W A9 t.length t) (htc : t.length ≤ c9) (b : Bool) (hb : wordV9 n t x = b) :
    Calls Try.prog 46 #[.agg ca.toArray, .int .i64 n, .slice A9 t.length c9] W fun e w' => e = .returned (.bool b) ∧ Below W.heap.size W w' := by
  obtain ⟨A4, c4, rfl, i4, g4⟩ := k45_open hk
  obtain ⟨b', h1, h2⟩ := wordF_both x.f0 hx x.f1 x.f2 x.f3 x.f4 n t (4 * x.f4.length + 5 + (x.f0.size + 1)) (by omega) (by omega)
  have hv : rightO n t x = some b' := anyK_of (fun j => dict_right.mono _ _ _ _ _ _ _ j) h1
  have : b' = b := by
    rw [← hb]
    unfold wordV9
    rw [hv]
    cases b' <;> rfl
  rw [← this]
  exact tinderref09_wordFormed.calls _ x.f0 x.f1 x.f2 x.f3 A4 c4 x.f4 n A9 c9 t b' W g4 i4 ht htc h2
set_option maxHeartbeats 4000000 in
set_option maxRecDepth 100000 in
theorem sameWordP (x : S45) (y : S64) (b : Bool) (ca : List Value) (w : World) (hk : k45.K w x ca) (h : okW x y = b) :
    Calls Try.prog 45 #[.agg ca.toArray, .agg #[.string y.f0, .int .i64 (-1), .int .i64 1, .int .u32 (y.f1 % 4294967296), .slice none 0 0]] w fun e w' => e = .returned (.bool b) ∧ Below w.heap.size w w' := by
  obtain ⟨A4, c4, rfl, i4, g4⟩ := k45_open hk
  obtain ⟨n0, n1, n2, n3, l⟩ := x
  obtain ⟨m0, m1⟩ := y
  simp only at i4 g4 h
  have hmx := g4.2.1
  clear hk i4 g4
  show Calls Try.prog 45 #[.agg #[.string n0, .int .i64 n1, .int .i64 n2, .int .u32 n3, .slice A4 l.length c4], .agg #[.string m0, .int .i64 (-1), .int .i64 1, .int .u32 (m1 % 4294967296), .slice none 0 0]] w _
  obtain ⟨m3, hm3⟩ : ∃ m, m = m1 % 4294967296 := ⟨_, rfl⟩
  rw [← hm3]
  have HM := Aside0.mk hm3
  clear hm3
  by_cases q0 : ¬ n0.toList = m0.toList
  · have HO : Aside0 (false = b) := ⟨by rw [← h]; exact (okW_f0 q0).symm⟩
    have d0 : (n0.toList == m0.toList) = false := beq_eq_false_iff_ne.2 q0
    have d0' : (n0.toList != m0.toList) = true := bne_iff_ne.2 q0
    clear h q0
    go_enter Try.func45, Try.ntmps45
    go_wp2
    go_ret
    exact ⟨by rw [← HO.out]; rfl, by repeat (first | exact Below.refl _ _ | apply below_alloc)⟩
  have q0' := Classical.not_not.1 q0
  have d0 : (n0.toList == m0.toList) = true := beq_iff_eq.2 q0'
  have d0' : (n0.toList != m0.toList) = false := by rw [bne, d0]; rfl
  have Q0 := Aside0.mk q0'
  clear q0 q0'
  by_cases q1 : ¬ n1 = (-1)
  · have HO : Aside0 (false = b) := ⟨by rw [← h]; exact (okW_f1 q1).symm⟩
    have d1 : (n1 == (-1)) = false := beq_eq_false_iff_ne.2 q1
    have d1' : (n1 != (-1)) = true := bne_iff_ne.2 q1
    clear h q1
    go_enter Try.func45, Try.ntmps45
    go_wp2
    go_ret
    exact ⟨by rw [← HO.out]; rfl, by repeat (first | exact Below.refl _ _ | apply below_alloc)⟩
  have q1' := Classical.not_not.1 q1
  have d1 : (n1 == (-1)) = true := beq_iff_eq.2 q1'
  have d1' : (n1 != (-1)) = false := by rw [bne, d1]; rfl
  have Q1 := Aside0.mk q1'
  clear q1 q1'
  by_cases q2 : ¬ n2 = 1
  · have HO : Aside0 (false = b) := ⟨by rw [← h]; exact (okW_f2 q2).symm⟩
    have d2 : (n2 == 1) = false := beq_eq_false_iff_ne.2 q2
    have d2' : (n2 != 1) = true := bne_iff_ne.2 q2
    clear h q2
    go_enter Try.func45, Try.ntmps45
    go_wp2
    go_ret
    exact ⟨by rw [← HO.out]; rfl, by repeat (first | exact Below.refl _ _ | apply below_alloc)⟩
  have q2' := Classical.not_not.1 q2
  have d2 : (n2 == 1) = true := beq_iff_eq.2 q2'
  have d2' : (n2 != 1) = false := by rw [bne, d2]; rfl
  have Q2 := Aside0.mk q2'
  clear q2 q2'
  by_cases q3 : ¬ n3 = m3
  · have HO : Aside0 (false = b) := ⟨by rw [← h]; exact (okW_f3 (by rw [← HM.out]; exact q3)).symm⟩
    have d3 : (n3 == m3) = false := beq_eq_false_iff_ne.2 q3
    have d3' : (n3 != m3) = true := bne_iff_ne.2 q3
    clear h q3
    go_enter Try.func45, Try.ntmps45
    go_wp2
    go_ret
    exact ⟨by rw [← HO.out]; rfl, by repeat (first | exact Below.refl _ _ | apply below_alloc)⟩
  have q3' := Classical.not_not.1 q3
  have d3 : (n3 == m3) = true := beq_iff_eq.2 q3'
  have d3' : (n3 != m3) = false := by rw [bne, d3]; rfl
  have Q3 := Aside0.mk q3'
  clear q3 q3'
  by_cases q4 : 0 < l.length
  · have HO : Aside0 (false = b) := ⟨by rw [← h]; exact (okW_f4 q4).symm⟩
    have d4 : ((l.length : Int) == 0) = false := beq_eq_false_iff_ne.2 (by omega)
    have d4' : ((l.length : Int) != 0) = true := bne_iff_ne.2 (by omega)
    have d4n : (l.length == 0) = false := beq_eq_false_iff_ne.2 (by omega)
    clear h q4
    go_enter Try.func45, Try.ntmps45
    go_wp2
    go_ret
    exact ⟨by rw [← HO.out]; rfl, by repeat (first | exact Below.refl _ _ | apply below_alloc)⟩
  have HO : Aside0 (true = b) := ⟨by rw [← h]; exact (okW_true Q0.out Q1.out Q2.out (by rw [← HM.out]; exact Q3.out) q4).symm⟩
  obtain rfl : l = [] := List.eq_nil_of_length_eq_zero (by omega)
  clear h q4 hmx
  go_enter Try.func45, Try.ntmps45
  go_wp2
  go_loopg [5] 0 (fun gg v5 wr => v5 = .int .i64 0 ∧ wr = (w.alloc (.cells #[.string n0, .int .i64 n1, .int .i64 n2, .int .u32 n3, .slice A4 ([] : List S57).length c4] 45)).alloc (.cells #[.string m0, .int .i64 (-1), .int .i64 1, .int .u32 m3, .slice none 0 0] 45))
  case atStart => exact ⟨rfl, rfl⟩
  case round =>
    obtain ⟨rfl, rfl⟩ := hrel
    go_wp2
    go_ret
    exact ⟨by rw [← HO.out]; rfl, by repeat (first | exact Below.refl _ _ | apply below_alloc)⟩
end Go.Proofs.Ytpalbpakeokimaa.PK
