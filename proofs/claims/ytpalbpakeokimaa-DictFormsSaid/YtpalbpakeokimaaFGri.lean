/- tinder: a part of the proof, joined and pruned by wip/tools/prune.py out of: Gri -/
import Derived.Test.YtpalbpakeokimaaFPr
import Derived.Test.YtpalbpakeokimaaFK59
import Derived.Test.YtpalbpakeokimaaFK60
import Derived.Test.YtpalbpakeokimaaFK61
import Derived.Deep.DeepCutAuto
import Derived.Outline
namespace Go.Proofs.Ytpalbpakeokimaa.PK
set_option linter.unusedVariables false
set_option linter.unusedSimpArgs false
open Go.RowKit Go.Proofs.YtpalbpakeokimaaW.PrintWords Go.Proofs.YtpalbpakeokimaaW.PrintLast Go.Proofs.YtpalbpakeokimaaW.PrintMore
theorem place_l0 (s : ByteArray) (hs : s.size ≤ 256) : ∀ (d i : Nat), i + d = s.size → ∀ k, d + 1 ≤ k → ∃ r, tinderref07_Place.l0 k s (i : Int) 47 = some r ∧ decide (r < (s.size : Int)) = (s.data.toList.drop i).contains 47 := by
  have hl : s.data.toList.length = s.size := by simp
  intro d
  induction d with
  | zero =>
    intro i hi k hk
    obtain ⟨k', rfl⟩ : ∃ k', k = k' + 1 := ⟨k - 1, by omega⟩
    unfold tinderref07_Place.l0
    rw [if_neg (by omega), List.drop_eq_nil_of_le (by omega)]
    exact ⟨_, rfl, by rw [decide_eq_false (by omega)]; rfl⟩
  | succ d ih =>
    intro i hi k hk
    obtain ⟨k', rfl⟩ : ∃ k', k = k' + 1 := ⟨k - 1, by omega⟩
    have hil : i < s.data.toList.length := by omega
    unfold tinderref07_Place.l0
    have hw : wrap64 ((i : Int) + 1) = ((i + 1 : Nat) : Int) := by unfold wrap64; omega
    rw [if_pos (by omega), if_pos (by omega), bt_get s i hil, List.drop_eq_getElem_cons hil, hw]
    generalize hb : s.data.toList[i] = b
    by_cases h : (b.toNat : Int) = 47
    · rw [if_pos h]
      have hb47 : b = 47 := UInt8.toNat_inj.1 (show b.toNat = 47 by omega)
      exact ⟨_, rfl, by rw [decide_eq_true (by omega), hb47]; rfl⟩
    · rw [if_neg h]
      have hb47 : ¬ b = 47 := fun e => h (by rw [e]; rfl)
      obtain ⟨r, h1, h2⟩ := ih (i + 1) (by omega) k' (by omega)
      refine ⟨r, h1, h2.trans ?_⟩
      rw [List.contains_cons]
      have : ((47 : UInt8) == b) = false := beq_eq_false_iff_ne.2 (fun e => hb47 e.symm)
      rw [this, Bool.false_or]
theorem place79 (s : ByteArray) (hs : s.size ≤ 256) : ∃ r : Int, decide (r < (s.size : Int)) = s.data.toList.contains 47 ∧ ∀ W, Calls Try.prog 79 #[.string s, .int .i64 0, .int .u8 47] W fun e w' => e = .returned (.int .i64 r) ∧ ∃ m, w' = W.drewN m := by
  obtain ⟨r, h1, h2⟩ := place_l0 s hs s.size 0 (by omega) (s.size + 1) (Nat.le_refl _)
  exact ⟨r, h2, fun W => (tinderref07_Place.calls (s.size + 1) s 0 47 r W h1).mono fun e w' ⟨he, hw⟩ => ⟨he, hw.out⟩⟩
def aliveR (l : List S80) (n : Int) : Bool := decide (0 ≤ n) && (decide (n < (l.length : Int)) && decide (0 ≤ (rd_T80 l n).f0))
theorem alive44 (l : List S80) (n : Int) (b : Bool) (h : aliveR l n = b) (A0 : Option Addr) (c0 : Nat) (W : World) (hr : Kd.C k80 W A0 l.length l) (hc : l.length ≤ c0) : Calls Try.prog 44 #[.slice A0 l.length c0, .int .i64 n] W fun e w' => e = .returned (.bool b) ∧ Below W.heap.size W w' := by
  refine (tinderref09_alive.calls A0 c0 l n b W hr hc ?_).mono fun e w' ⟨he, hw⟩ => ⟨he, by obtain ⟨m, hm⟩ := hw.out; rw [hm]; exact pw_below_drewN (Below.refl _ _) m⟩
  unfold tinderref09_alive.f
  unfold aliveR at h
  by_cases h0 : n ≥ 0
  · rw [if_pos h0]
    rw [decide_eq_true (show 0 ≤ n from h0), Bool.true_and] at h
    by_cases h1 : n < (l.length : Int)
    · rw [if_pos h1, if_pos h0]
      rw [decide_eq_true h1, Bool.true_and] at h
      rw [← h]
    · rw [if_neg h1]
      rw [decide_eq_false h1, Bool.false_and] at h
      rw [← h]
  · rw [if_neg h0]
    rw [decide_eq_false (show ¬ 0 ≤ n from h0), Bool.false_and] at h
    rw [← h]
def noInst (x : S80) : Bool := decide (x.f1 = -1) && (x.f2.toList.isEmpty && decide (x.f3.length = 0))
def hereInst (t : List S92) (x : S80) : Bool := decide (0 ≤ x.f0) && (decide (x.f0 < (t.length : Int)) && (decide (x.f3.length = (rd_T92 t x.f0).f4.length) && (decide (x.f2.size ≤ 256) && !(x.f2.data.toList.contains 47))))
def instR (l : List S80) (t : List S92) (x : S80) : Bool := if x.f0 = -1 then noInst x else hereInst t x && (decide (x.f1 = -1) || aliveR l x.f1)
def chainR (l : List S80) : Nat → Int → Bool
  | 0, _ => false
  | n + 1, a => if a < 0 then true else chainR l n (rd_T80 l a).f1
def endsR (l : List S80) (i : Nat) : Bool := chainR l 18 (l.getD i z80).f1
def instAt (l : List S80) (t : List S92) (i : Nat) : Bool := instR l t (l.getD i z80)
def instsR (l : List S80) (t : List S92) : Bool := decide (l.length ≤ 16) && ((List.range l.length).all (instAt l t) && (List.range l.length).all (endsR l))
theorem range_no {n k : Nat} {f : Nat → Bool} (hk : k < n) (h : f k = false) : (List.range n).all f = false := by
  rw [List.all_eq_false]
  exact ⟨k, List.mem_range.2 hk, by rw [h]; simp⟩
theorem range_more {n : Nat} {f : Nat → Bool} (h : (List.range n).all f = true) (hn : f n = true) : (List.range (n + 1)).all f = true := by
  rw [List.range_succ, List.all_append, h, Bool.true_and, List.all_cons, hn]
  rfl
theorem sameInst78 (x : S80) (b : Bool) (hx : x.f0 = -1) (h : noInst x = b) (A3 : Option Addr) (c3 : Nat) (W : World) (hr : Kd.C (Kd.int .u32) W A3 x.f3.length x.f3) (hc : x.f3.length ≤ c3) :
    Calls Try.prog 78 #[.agg #[.int .i64 x.f0, .int .i64 x.f1, .string x.f2, .slice A3 x.f3.length c3], .agg #[.int .i64 (-1), .int .i64 (-1), .string ⟨#[]⟩, .slice none 0 0]] W fun e w' => e = .returned (.bool b) ∧ Below W.heap.size W w' := by
  refine tinderref09_SameInst.calls (x.f3.length + 1) x.f0 x.f1 x.f2 A3 c3 x.f3 (-1) (-1) ⟨#[]⟩ none 0 [] b W hr hc ⟨rfl, by simp, fun h => absurd h (Nat.lt_irrefl 0)⟩ (Nat.le_refl _) ?_
  unfold tinderref09_SameInst.f
  rw [if_pos hx]
  unfold noInst at h
  by_cases h1 : x.f1 = -1
  · rw [if_pos h1]
    rw [decide_eq_true h1, Bool.true_and] at h
    have he : (⟨#[]⟩ : ByteArray).toList = [] := by rw [ByteArray.toList_eq]
    rw [he]
    by_cases h2 : x.f2.toList = []
    · rw [if_pos h2, same03_any x.f3 [] hr.2.1]
      rw [h2, List.isEmpty_nil, Bool.true_and] at h
      rw [← h, Option.bind_some]
      cases x.f3 <;> simp
    · rw [if_neg h2]
      have : x.f2.toList.isEmpty = false := by simpa using h2
      rw [this, Bool.false_and] at h
      rw [← h]
  · rw [if_neg h1]
    rw [decide_eq_false h1, Bool.false_and] at h
    rw [← h]
theorem chainR_neg (l : List S80) (n : Nat) (a : Int) (h : a < 0) : chainR l (n + 1) a = true := by unfold chainR; rw [if_pos h]
theorem chainR_next (l : List S80) (n : Nat) (a : Int) (h : ¬ a < 0) : chainR l (n + 1) a = chainR l n (rd_T80 l a).f1 := by rw [chainR, if_neg h]
theorem parents_ok {l : List S80} {t : List S92} (h : (List.range l.length).all (instAt l t) = true) (a : Int) (h0 : 0 ≤ a) (h1 : a < (l.length : Int)) : (rd_T80 l a).f1 = -1 ∨ (0 ≤ (rd_T80 l a).f1 ∧ (rd_T80 l a).f1 < (l.length : Int)) := by
  have h2 := List.all_eq_true.1 h a.toNat (List.mem_range.2 (by omega))
  unfold instAt at h2
  change instR l t (rd_T80 l a) = true at h2
  unfold instR at h2
  split at h2
  · unfold noInst at h2
    simp only [Bool.and_eq_true, decide_eq_true_eq] at h2
    exact .inl h2.1
  · simp only [Bool.and_eq_true, Bool.or_eq_true, decide_eq_true_eq] at h2
    rcases h2.2 with h3 | h3
    · exact .inl h3
    · unfold aliveR at h3
      simp only [Bool.and_eq_true, decide_eq_true_eq] at h3
      exact .inr ⟨h3.1, h3.2.1⟩
set_option maxHeartbeats 8000000 in
set_option maxRecDepth 100000 in
theorem insts43 (A0 : Option Addr) (c0 : Nat) (l : List S80) (A9 : Option Addr) (c9 : Nat) (t : List S92) (w : World) (hr : Kd.C k80 w A0 l.length l) (hc : l.length ≤ c0) (ht : Kd.C k92 w A9 t.length t) (htc : t.length ≤ c9) :
    Calls Try.prog 43 #[.slice A0 l.length c0, .slice A9 t.length c9] w fun e w' => e = .returned (.bool (instsR l t)) ∧ Below w.heap.size w w' := by
  have hmx := hr.2.1
  have hmt := ht.2.1
  have HR := Aside0.mk hr
  have HC := Aside0.mk hc
  have TR := Aside0.mk ht
  have TC := Aside0.mk htc
  clear hr hc ht htc
  by_cases e0 : 16 < l.length
  · have HT : Aside0 (instsR l t = false) := ⟨by unfold instsR; rw [decide_eq_false (show ¬ l.length ≤ 16 by omega)]; rfl⟩
    have e1 : decide ((16 : Int) < (l.length : Int)) = true := decide_eq_true (by omega)
    have e2 : decide (16 < l.length) = true := decide_eq_true e0
    clear e0
    go_enter Try.func43, Try.ntmps43
    go_wp2
    go_ret
    exact ⟨by rw [HT.out]; rfl, Below.refl _ _⟩
  have e1 : decide ((16 : Int) < (l.length : Int)) = false := decide_eq_false (by omega)
  have e2 : decide (16 < l.length) = false := decide_eq_false e0
  have hl16 : l.length ≤ 16 := by omega
  clear e0
  have stop1 : ∀ i, i < l.length → instAt l t i = false → instsR l t = false := fun i hi h => by
    unfold instsR
    rw [range_no hi h, Bool.false_and, Bool.and_false]
  have STOP1 := Aside0.mk stop1
  have stop2 : ∀ i, i < l.length → endsR l i = false → instsR l t = false := fun i hi h => by
    unfold instsR
    rw [range_no hi h, Bool.and_false, Bool.and_false]
  have STOP2 := Aside0.mk stop2
  clear stop1 stop2
  go_enter Try.func43, Try.ntmps43
  go_wp2
  clear e1 e2
  go_loopg [5, 6] l.length (fun gg s5 s6 wr => ∃ i : Nat, i ≤ l.length ∧ l.length - i ≤ gg ∧ s5 = .int .i64 i ∧ Aside0 ((List.range i).all (instAt l t) = true) ∧ Aside0 (Below w.heap.size w wr))
  case atStart => exact ⟨0, by omega, by omega, rfl, ⟨rfl⟩, ⟨Below.refl _ _⟩⟩
  case round =>
    obtain ⟨i, hle, hgg, rfl, OK, HB⟩ := hrel
    by_cases hlt : i < l.length
    · have hltz : (i : Int) < (l.length : Int) := by omega
      have hi0 : (0 : Int) ≤ (i : Int) := by omega
      obtain ⟨ad, A3, c3, e, z0, z1, z2, z3, i3, g3⟩ := at_T80 HR.out (i : Int) hi0 hltz
      cases e
      rw [Int.toNat_natCast] at z0 z1 z2 z3
      have hgd : l.getD i z80 = rd_T80 l (i : Int) := rfl
      obtain ⟨x, hx⟩ : ∃ x, x = rd_T80 l (i : Int) := ⟨_, rfl⟩
      rw [← hx] at z0 z1 z2 z3 i3 g3 hgd
      clear hx
      have HX : Aside0 (instAt l t i = instR l t x) := ⟨by unfold instAt; rw [hgd]⟩
      clear hgd
      replace z0 := (HB.out.cell (World.block_lt_of_cell? w _ z0)).trans z0
      replace z1 := (HB.out.cell (World.block_lt_of_cell? w _ z1)).trans z1
      replace z2 := (HB.out.cell (World.block_lt_of_cell? w _ z2)).trans z2
      replace z3 := (HB.out.cell (World.block_lt_of_cell? w _ z3)).trans z3
      have I3 := Aside0.mk i3
      have G3 := Aside0.mk g3
      clear i3 g3
      have HN := Aside0.mk (below_alloc HB.out (.cells #[.int .i64 x.f0, .int .i64 x.f1, .string x.f2, .slice A3 x.f3.length c3] 80))
      by_cases hm : x.f0 = -1
      · have d0 : (x.f0 == (-1)) = true := beq_iff_eq.mpr hm
        cases hb : noInst x with
        | false =>
          have C78 := Aside0.mk (fun W (hW : Below w.heap.size w W) => sameInst78 x false hm hb A3 c3 W (Kd.C_below G3.out hW) I3.out)
          have HT := Aside0.mk (STOP1.out i hlt (HX.out.trans (by unfold instR; rw [if_pos hm, hb])))
          clear hm hb
          go_wp2_with (go_at_call 78; refine (C78.out _ HN.out).mono ?_; rintro e wF ⟨rfl, hbF⟩)
          go_ret
          exact ⟨by rw [HT.out]; rfl, below_then HN.out HN.out.size hbF⟩
        | true =>
          have C78 := Aside0.mk (fun W (hW : Below w.heap.size w W) => sameInst78 x true hm hb A3 c3 W (Kd.C_below G3.out hW) I3.out)
          have OKN : Aside0 ((List.range (i + 1)).all (instAt l t) = true) := ⟨range_more OK.out (HX.out.trans (by unfold instR; rw [if_pos hm, hb]))⟩
          clear hm hb OK
          go_wp2_with (go_at_call 78; refine (C78.out _ HN.out).mono ?_; rintro e wF ⟨rfl, hbF⟩; have HF := Aside0.mk (below_then HN.out HN.out.size hbF); clear hbF)
          go_roundg (l.length - (i + 1))
          case measure => omega
          case rel => exact ⟨i + 1, by omega, by omega, by go_num, OKN, ⟨HF.out⟩⟩
      have d0 : (x.f0 == (-1)) = false := beq_eq_false_iff_ne.mpr hm
      have hir : instR l t x = (hereInst t x && (decide (x.f1 = -1) || aliveR l x.f1)) := by unfold instR; rw [if_neg hm]
      have HI := Aside0.mk hir
      have bad : hereInst t x = false → instsR l t = false := fun h => STOP1.out i hlt (HX.out.trans (by rw [hir, h, Bool.false_and]))
      have BAD := Aside0.mk bad
      clear hir bad hm
      have BN := Aside0.mk (blk_new wr (.cells #[.int .i64 x.f0, .int .i64 x.f1, .string x.f2, .slice A3 x.f3.length c3] 80))
      go_wp2
      obtain ⟨W2, hW2⟩ : ∃ W2, (wr.alloc (.cells #[.int .i64 x.f0, .int .i64 x.f1, .string x.f2, .slice A3 x.f3.length c3] 80)) = W2 := ⟨_, rfl⟩
      rw [hW2] at BN HN
      rw [hW2]
      clear hW2 z0 z1 z2 z3 HB d0
      have zz0 := cell_of_row _ _ 0 _ _ _ BN.out
      have zz1 := cell_of_row _ _ 1 _ _ _ BN.out
      have zz2 := cell_of_row _ _ 2 _ _ _ BN.out
      have zz3 := cell_of_row _ _ 3 _ _ _ BN.out
      simp only [List.getElem?_toArray, List.getElem?_cons_succ, List.getElem?_cons_zero] at zz0 zz1 zz2 zz3
      by_cases h0 : x.f0 < 0
      · have d1 : decide (x.f0 < 0) = true := decide_eq_true h0
        have HT := Aside0.mk (BAD.out (by unfold hereInst; rw [decide_eq_false (show ¬ 0 ≤ x.f0 by omega)]; rfl))
        clear OK
        go_quiet (fail)
        go_wp2
        go_ret
        exact ⟨by rw [HT.out]; rfl, pw_below_drewN HN.out _⟩
      have d1 : decide (x.f0 < 0) = false := decide_eq_false h0
      by_cases h1 : (t.length : Int) ≤ x.f0
      · have d2 : decide ((t.length : Int) ≤ x.f0) = true := decide_eq_true h1
        have HT := Aside0.mk (BAD.out (by unfold hereInst; rw [decide_eq_false (show ¬ x.f0 < (t.length : Int) by omega), Bool.false_and, Bool.and_false]))
        clear OK
        go_quiet (fail)
        go_wp2
        go_ret
        exact ⟨by rw [HT.out]; rfl, pw_below_drewN HN.out _⟩
      have d2 : decide ((t.length : Int) ≤ x.f0) = false := decide_eq_false h1
      have h0' : 0 ≤ x.f0 := by omega
      have h1' : x.f0 < (t.length : Int) := by omega
      obtain ⟨td, T1, t1, T3, t3, T4, t4, e, y0, y1, y2, y3, y4, v1, w1, v3, w3, v4, w4⟩ := at_T92 TR.out x.f0 h0' h1'
      cases e
      clear y0 y1 y2 y3 v1 w1 v3 w3 v4 w4
      replace y4 := (HN.out.cell (World.block_lt_of_cell? w _ y4)).trans y4
      have p0 := eq_true h0'
      have p1 := eq_true h1'
      by_cases h3 : x.f3.length = (rd_T92 t x.f0).f4.length
      · have d3 : ((x.f3.length : Int) == ((rd_T92 t x.f0).f4.length : Int)) = true := by rw [h3]; simp
        have d3' : ((x.f3.length : Int) != ((rd_T92 t x.f0).f4.length : Int)) = false := by rw [h3]; simp
        have d3n : (x.f3.length == (rd_T92 t x.f0).f4.length) = true := by rw [h3]; simp
        by_cases h4 : 256 < x.f2.size
        · have d4 : decide ((256 : Int) < (x.f2.size : Int)) = true := decide_eq_true (by omega)
          have d4n : decide (256 < x.f2.size) = true := decide_eq_true h4
          have HT := Aside0.mk (BAD.out (by unfold hereInst; rw [decide_eq_false (show ¬ x.f2.size ≤ 256 by omega), Bool.false_and, Bool.and_false, Bool.and_false, Bool.and_false]))
          clear OK h3
          go_quiet (fail)
          go_wp2
          go_ret
          exact ⟨by rw [HT.out]; rfl, pw_below_drewN HN.out _⟩
        have d4 : decide ((256 : Int) < (x.f2.size : Int)) = false := decide_eq_false (by omega)
        have d4n : decide (256 < x.f2.size) = false := decide_eq_false h4
        obtain ⟨r, hr1, hr2⟩ := place79 x.f2 (by omega)
        have C79 := Aside0.mk (fun n => hr2 (W2.drewN n))
        clear hr2
        cases hs : x.f2.data.toList.contains 47 with
        | true =>
          have d5 : decide (r < (x.f2.size : Int)) = true := hr1.trans hs
          have HT := Aside0.mk (BAD.out (by unfold hereInst; rw [hs]; simp))
          clear OK h3 hr1 hs
          go_quiet ((go_at_call 79; exact Calls.quiet_of (C79.out _)))
          go_wp2
          go_ret
          exact ⟨by rw [HT.out]; rfl, pw_below_drewN HN.out _⟩
        | false =>
          have d5 : decide (r < (x.f2.size : Int)) = false := hr1.trans hs
          have HH : Aside0 (hereInst t x = true) := ⟨by unfold hereInst; rw [hs, decide_eq_true h0', decide_eq_true h1', decide_eq_true h3, decide_eq_true (show x.f2.size ≤ 256 by omega)]; rfl⟩
          clear h3 hr1 hs
          by_cases hp : x.f1 = -1
          · have d6 : (x.f1 == (-1)) = true := beq_iff_eq.mpr hp
            have d7 : (x.f1 != (-1)) = false := by rw [hp]; rfl
            have OKN : Aside0 ((List.range (i + 1)).all (instAt l t) = true) := ⟨range_more OK.out (HX.out.trans (by rw [HI.out, HH.out, decide_eq_true hp]; rfl))⟩
            clear OK hp
            go_quiet ((go_at_call 79; exact Calls.quiet_of (C79.out _)))
            go_wp2
            go_roundg (l.length - (i + 1))
            case measure => omega
            case rel => exact ⟨i + 1, by omega, by omega, by go_num, OKN, ⟨pw_below_drewN HN.out _⟩⟩
          · have d6 : (x.f1 == (-1)) = false := beq_eq_false_iff_ne.mpr hp
            have d7 : (x.f1 != (-1)) = true := bne_iff_ne.mpr hp
            cases ha : aliveR l x.f1 with
            | false =>
              have C44 := Aside0.mk (fun W (hW : Below w.heap.size w W) => alive44 l x.f1 false ha (some ad) c0 W (Kd.C_below HR.out hW) HC.out)
              have HT := Aside0.mk (STOP1.out i hlt (HX.out.trans (by rw [HI.out, ha, decide_eq_false hp]; simp)))
              clear OK hp ha
              go_quiet ((go_at_call 79; exact Calls.quiet_of (C79.out _)))
              go_wp2_with (go_at_call 44; refine (C44.out _ (pw_below_drewN HN.out _)).mono ?_; rintro e wF ⟨rfl, hbF⟩)
              go_ret
              exact ⟨by rw [HT.out]; rfl, below_then HN.out HN.out.size ((below_then (pw_below_drewN (Below.refl _ _) _) (Nat.le_refl _) hbF))⟩
            | true =>
              have C44 := Aside0.mk (fun W (hW : Below w.heap.size w W) => alive44 l x.f1 true ha (some ad) c0 W (Kd.C_below HR.out hW) HC.out)
              have OKN : Aside0 ((List.range (i + 1)).all (instAt l t) = true) := ⟨range_more OK.out (HX.out.trans (by rw [HI.out, HH.out, ha, decide_eq_false hp]; rfl))⟩
              clear OK hp ha
              go_quiet ((go_at_call 79; exact Calls.quiet_of (C79.out _)))
              go_wp2_with (go_at_call 44; refine (C44.out _ (pw_below_drewN HN.out _)).mono ?_; rintro e wF ⟨rfl, hbF⟩; have HF := Aside0.mk (below_then HN.out HN.out.size (below_then (pw_below_drewN (Below.refl _ _) _) (Nat.le_refl _) hbF)); clear hbF)
              go_roundg (l.length - (i + 1))
              case measure => omega
              case rel => exact ⟨i + 1, by omega, by omega, by go_num, OKN, ⟨HF.out⟩⟩
      · have d3 : ((x.f3.length : Int) == ((rd_T92 t x.f0).f4.length : Int)) = false := beq_eq_false_iff_ne.mpr (by omega)
        have d3' : ((x.f3.length : Int) != ((rd_T92 t x.f0).f4.length : Int)) = true := bne_iff_ne.mpr (by omega)
        have d3n : (x.f3.length == (rd_T92 t x.f0).f4.length) = false := beq_eq_false_iff_ne.mpr h3
        have HT := Aside0.mk (BAD.out (by unfold hereInst; rw [decide_eq_false h3, Bool.false_and, Bool.and_false, Bool.and_false]))
        clear OK h3
        go_quiet (fail)
        go_wp2
        go_ret
        exact ⟨by rw [HT.out]; rfl, pw_below_drewN HN.out _⟩
    · have hltz : ¬ (i : Int) < (l.length : Int) := by omega
      have OKA : Aside0 ((List.range l.length).all (instAt l t) = true) := ⟨by
        have e : i = l.length := by omega
        have h := OK.out
        rw [e] at h
        exact h⟩
      clear OK hgg hle
      go_wp2
      obtain ⟨wo, rfl⟩ : ∃ wo : World, wo = wr := ⟨_, rfl⟩
      go_loopg [7, 8, 9] l.length (fun gg s7 s8 s9 wr => ∃ i : Nat, i ≤ l.length ∧ l.length - i ≤ gg ∧ s7 = .int .i64 i ∧ wr = wo ∧ Aside0 ((List.range i).all (endsR l) = true))
      case atStart => exact ⟨0, by omega, by omega, rfl, rfl, ⟨rfl⟩⟩
      case round =>
        obtain ⟨i, hle, hgg, rfl, rfl, OKE⟩ := hrel
        by_cases hlt2 : i < l.length
        · have hltz2 : (i : Int) < (l.length : Int) := by omega
          have hi0 : (0 : Int) ≤ (i : Int) := by omega
          obtain ⟨ad, A3, c3, e, z0, z1, z2, z3, i3, g3⟩ := at_T80 HR.out (i : Int) hi0 hltz2
          cases e
          rw [Int.toNat_natCast] at z1
          clear z0 z2 z3 i3 g3
          have PA := parents_ok OKA.out (i : Int) hi0 hltz2
          have HE : Aside0 (chainR l 18 (rd_T80 l (i : Int)).f1 = endsR l i) := ⟨rfl⟩
          obtain ⟨a0, ha0⟩ : ∃ a, a = (rd_T80 l (i : Int)).f1 := ⟨_, rfl⟩
          rw [← ha0] at z1 PA HE
          clear ha0
          replace z1 := (HB.out.cell (World.block_lt_of_cell? w _ z1)).trans z1
          have PA' := Aside0.mk PA
          clear PA
          go_wp2
          clear z1
          obtain ⟨wo, rfl⟩ : ∃ wo : World, wo = wr := ⟨_, rfl⟩
          go_loopg [8, 9] 18 (fun gg2 s8 s9 wr => ∃ (a : Int) (k : Nat), wr = wo ∧ s8 = .int .i64 a ∧ s9 = .int .i64 k ∧ k ≤ 17 ∧ 17 - k ≤ gg2 ∧ Aside0 (a = -1 ∨ (0 ≤ a ∧ a < (l.length : Int))) ∧ Aside0 (chainR l (18 - k) a = endsR l i))
          case atStart => exact ⟨a0, 0, rfl, rfl, rfl, by omega, by omega, PA', HE⟩
          case round =>
            clear HE PA'
            obtain ⟨a, k, rfl, rfl, rfl, hk, hgk, VA, CH⟩ := hrel
            by_cases hneg : a < 0
            · have hneg' : ¬ 0 ≤ a := by omega
              have OKN : Aside0 ((List.range (i + 1)).all (endsR l) = true) := ⟨range_more OKE.out (by rw [← CH.out, show 18 - k = (17 - k) + 1 by omega]; exact chainR_neg _ _ _ hneg)⟩
              clear OKE
              go_wp2
              go_roundg (l.length - (i + 1))
              case measure => omega
              case rel => exact ⟨i + 1, by omega, by omega, by go_num, rfl, OKN⟩
            · have hpos : 0 ≤ a := by omega
              have hlen : a < (l.length : Int) := by have := VA.out; omega
              by_cases hkk : 16 < k
              · have hkz : (16 : Int) < (k : Int) := by omega
                have HT := Aside0.mk (STOP2.out i hlt2 (by rw [← CH.out, show 18 - k = 0 + 1 by omega, chainR_next _ _ _ hneg]; rfl))
                clear OKE
                go_wp2
                go_ret
                exact ⟨by rw [HT.out]; rfl, HB.out⟩
              · have hkz : ¬ (16 : Int) < (k : Int) := by omega
                obtain ⟨bd, B3, b3, e, y0, y1, y2, y3, j3, k3⟩ := at_T80 HR.out a hpos hlen
                injection e with e
                subst e
                clear y0 y2 y3 j3 k3
                have VB := Aside0.mk (parents_ok OKA.out a hpos hlen)
                have CH' : Aside0 (chainR l (18 - (k + 1)) (rd_T80 l a).f1 = endsR l i) := ⟨by rw [← CH.out, show 18 - k = (18 - (k + 1)) + 1 by omega, chainR_next _ _ _ hneg]⟩
                replace y1 := (HB.out.cell (World.block_lt_of_cell? w _ y1)).trans y1
                clear CH
                go_wp2
                go_roundg (17 - (k + 1))
                case measure => omega
                case rel => exact ⟨_, k + 1, rfl, rfl, by go_num, by omega, by omega, VB, CH'⟩
        · have hltz2 : ¬ (i : Int) < (l.length : Int) := by omega
          have HT : Aside0 (instsR l t = true) := ⟨by
            have e : i = l.length := by omega
            have h := OKE.out
            rw [e] at h
            unfold instsR
            rw [h, OKA.out, decide_eq_true hl16]
            rfl⟩
          clear OKE
          go_wp2
          go_ret
          exact ⟨by rw [HT.out]; rfl, HB.out⟩
end Go.Proofs.Ytpalbpakeokimaa.PK
