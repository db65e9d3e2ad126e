/- tinder: a part of the proof, joined and pruned by wip/tools/prune.py out of: Gr8 -/
import Derived.Test.YtpalbpakeokimaaFPr
import Derived.Test.YtpalbpakeokimaaFGj
import Derived.Deep.DeepCutAuto
import Derived.Outline
namespace Go.Proofs.Ytpalbpakeokimaa.PK
set_option linter.unusedVariables false
set_option linter.unusedSimpArgs false
open Go.RowKit Go.Proofs.YtpalbpakeokimaaW.PrintWords Go.Proofs.YtpalbpakeokimaaW.PrintLast Go.Proofs.YtpalbpakeokimaaW.PrintMore
theorem treeB_stop {l : List S92} {i : Nat} (h : i < l.length) (hn : nodeOK l i = false) : treeB l = false := by
  unfold treeB
  rw [all_stop h hn, Bool.and_false]
theorem named75b (s : ByteArray) (b : Bool) (h : propNamedB s = b) (W : World) : Calls Try.prog 75 #[.string s] W fun e w' => e = .returned (.bool b) ∧ Below W.heap.size W w' :=
  (named75 s W).mono fun e w' ⟨he, m, hw⟩ => ⟨by rw [he, h], by rw [hw]; exact pw_below_drewN (Below.refl _ _) m⟩
theorem named75c (s : ByteArray) (b : Bool) (h : propNamedB s = b) (W : World) : Calls Try.prog 75 #[.string s] W fun e w' => e = .returned (.bool b) ∧ ∃ m, w' = W.drewN m :=
  (named75 s W).mono fun e w' ⟨he, m, hw⟩ => ⟨by rw [he, h], m, hw⟩
theorem twin76b (l : List S92) (n : Nat) (hn : n ≤ l.length) (p : Int) (s : ByteArray) (u : List Int) (A : Option Addr) (c : Nat) (B : Option Addr) (d : Nat) (w W : World) (hr : Kd.C k92 w A l.length l) (hc : l.length ≤ c) (hu : Kd.C (Kd.int .u32) w B u.length u) (hd : u.length ≤ d) (hb : Below w.heap.size w W) (b : Bool) (h : (l.take n).any (isB p s u) = b) :
    Calls Try.prog 76 #[.slice A l.length c, .int .i64 (n : Int), .int .i64 p, .string s, .slice B u.length d] W fun e w' => e = .returned (.bool b) ∧ Below W.heap.size W w' :=
  (twin76 l n hn p s u A c B d W (Kd.C_below hr hb) hc (Kd.C_below hu hb) hd).mono fun e w' ⟨he, m, hw⟩ => ⟨by rw [he, h], by rw [hw]; exact pw_below_drewN (Below.refl _ _) m⟩
def headX (pre : List S92) (i : Nat) (x : S92) : Bool := if i = 0 then x.f0.toList.isEmpty && (decide (x.f1.length = 0) && decide (x.f2 = -1)) else propNamedB x.f0 && (decide (x.f1.length ≤ 4) && (decide (0 ≤ x.f2) && (decide (x.f2 < (i : Int)) && !(pre.any (isB x.f2 x.f0 x.f1)))))
theorem nodeX_head (pre : List S92) (i : Nat) (x : S92) (h : headX pre i x = false) : nodeX pre i x = false := by
  unfold nodeX
  unfold headX at h
  rw [h, Bool.and_false, Bool.and_false]
theorem nodeX_props (pre : List S92) (i : Nat) (x : S92) (h : propsB x.f3 = false) : nodeX pre i x = false := by
  unfold nodeX
  rw [h, Bool.false_and, Bool.and_false]
theorem nodeX_cells (pre : List S92) (i : Nat) (x : S92) (h : ¬ x.f4.length ≤ 16) : nodeX pre i x = false := by
  unfold nodeX
  rw [decide_eq_false h, Bool.false_and]
theorem nodeX_all (pre : List S92) (i : Nat) (x : S92) (h : headX pre i x = true) (h1 : propsB x.f3 = true) (h2 : x.f4.length ≤ 16) : nodeX pre i x = true := by
  unfold nodeX
  unfold headX at h
  rw [h, h1, decide_eq_true h2]
  rfl
theorem range_snoc {n : Nat} {f : Nat → Bool} (h : (List.range n).all f = true) (hn : f n = true) : (List.range (n + 1)).all f = true := by
  rw [List.range_succ, List.all_append, h, Bool.true_and, List.all_cons, hn]
  rfl
set_option maxHeartbeats 8000000 in
set_option maxRecDepth 100000 in
theorem ref08_formed (A0 : Option Addr) (c0 : Nat) (l : List S92) (w : World) (hr : Kd.C k92 w A0 l.length l) (hc : l.length ≤ c0) :
    Calls Try.prog 42 #[.slice A0 l.length c0] w fun e w' => e = .returned (.bool (treeB l)) ∧ Below w.heap.size w w' := by
  have hmx := hr.2.1
  by_cases e0 : l.length < 1
  · have HT : Aside0 (treeB l = false) := ⟨by unfold treeB; rw [decide_eq_false (show ¬ 1 ≤ l.length by omega)]; rfl⟩
    have e1 : decide ((l.length : Int) < 1) = true := decide_eq_true (by omega)
    have e2 : decide (l.length < 1) = true := decide_eq_true (by omega)
    clear hr hc e0
    go_enter Try.func42, Try.ntmps42
    go_wp2
    go_ret
    exact ⟨by rw [HT.out]; rfl, Below.refl _ _⟩
  by_cases e1 : 32 < l.length
  · have HT : Aside0 (treeB l = false) := ⟨by unfold treeB; rw [decide_eq_false (show ¬ l.length ≤ 32 by omega), Bool.and_false]; rfl⟩
    have e2 : decide ((l.length : Int) < 1) = false := decide_eq_false (by omega)
    have e3 : decide (l.length < 1) = false := decide_eq_false (by omega)
    have e4 : decide ((32 : Int) < (l.length : Int)) = true := decide_eq_true (by omega)
    have e5 : decide (32 < l.length) = true := decide_eq_true (by omega)
    clear hr hc e0 e1
    go_enter Try.func42, Try.ntmps42
    go_wp2
    go_ret
    exact ⟨by rw [HT.out]; rfl, Below.refl _ _⟩
  have e2 : decide ((l.length : Int) < 1) = false := decide_eq_false (by omega)
  have e3 : decide (l.length < 1) = false := decide_eq_false (by omega)
  have e4 : decide ((32 : Int) < (l.length : Int)) = false := decide_eq_false (by omega)
  have e5 : decide (32 < l.length) = false := decide_eq_false (by omega)
  have hl1 : 1 ≤ l.length := by omega
  have hl2 : l.length ≤ 32 := by omega
  clear e0 e1
  have HR := Aside0.mk hr
  have HC := Aside0.mk hc
  obtain ⟨ad, A1, c1, A3, c3, A4, c4, e, z0, z1, z2, z3, z4, i1, g1, i3, g3, i4, g4⟩ := at_T92 hr 0 (by omega) (by omega)
  cases e
  rw [show ((0 : Int)).toNat = 0 from rfl, show 0 * 5 = 0 from rfl, Addr.add_zero'] at z0 z1 z2 z3 z4
  clear i1 g1 i3 g3 i4 g4 hr hc
  have hg : l.getD 0 z92 = rd_T92 l 0 := rfl
  obtain ⟨m0, hm0⟩ : ∃ m, m = rd_T92 l 0 := ⟨_, rfl⟩
  rw [← hm0] at z0 z1 z2 z3 z4 hg
  clear hm0
  have HG := Aside0.mk hg
  clear hg
  have q0 : (0 < l.length) = True := eq_true (by omega)
  have q1 : ((0 : Int) < (l.length : Int)) = True := eq_true (by omega)
  have bad : headX [] 0 m0 = false → treeB l = false := fun h => treeB_stop (i := 0) (by omega) (by unfold nodeOK; rw [HG.out]; exact nodeX_head _ _ _ h)
  by_cases n0 : m0.f0.toList.isEmpty = false
  · have HT := Aside0.mk (bad (by unfold headX; rw [if_pos rfl, n0]; rfl))
    have n1 : (m0.f0.toList == ([] : List UInt8)) = false := by cases hh : m0.f0.toList with | nil => rw [hh] at n0; cases n0 | cons a b => rfl
    have n2 : (m0.f0.toList != ([] : List UInt8)) = true := by rw [bne, n1]; rfl
    clear bad
    go_enter Try.func42, Try.ntmps42
    go_wp2
    go_ret
    exact ⟨by rw [HT.out]; rfl, by repeat (first | exact Below.refl _ _ | apply pw_below_drewN)⟩
  have n1 : m0.f0.toList.isEmpty = true := by simpa using n0
  have n2 : (m0.f0.toList == ([] : List UInt8)) = true := by cases hh : m0.f0.toList with | nil => rfl | cons a b => rw [hh] at n1; cases n1
  have n3 : (m0.f0.toList != ([] : List UInt8)) = false := by rw [bne, n2]; rfl
  by_cases u0 : 0 < m0.f1.length
  · have HT := Aside0.mk (bad (by unfold headX; rw [if_pos rfl, decide_eq_false (show ¬ m0.f1.length = 0 by omega), Bool.false_and, Bool.and_false]))
    have u1 : decide ((0 : Int) < (m0.f1.length : Int)) = true := decide_eq_true (by omega)
    have u2 : decide (0 < m0.f1.length) = true := decide_eq_true u0
    clear bad
    go_enter Try.func42, Try.ntmps42
    go_wp2
    go_ret
    exact ⟨by rw [HT.out]; rfl, by repeat (first | exact Below.refl _ _ | apply pw_below_drewN)⟩
  have u1 : decide ((0 : Int) < (m0.f1.length : Int)) = false := decide_eq_false (by omega)
  have u2 : decide (0 < m0.f1.length) = false := decide_eq_false u0
  by_cases p0 : ¬ m0.f2 = -1
  · have HT := Aside0.mk (bad (by unfold headX; rw [if_pos rfl, decide_eq_false p0, Bool.and_false, Bool.and_false]))
    have p1 : (m0.f2 == (-1)) = false := beq_eq_false_iff_ne.mpr p0
    have p2 : (m0.f2 != (-1)) = true := bne_iff_ne.mpr p0
    clear bad
    go_enter Try.func42, Try.ntmps42
    go_wp2
    go_ret
    exact ⟨by rw [HT.out]; rfl, by repeat (first | exact Below.refl _ _ | apply pw_below_drewN)⟩
  have p1 : m0.f2 = -1 := Classical.not_not.1 p0
  have HH : Aside0 (headX [] 0 m0 = true) := ⟨by unfold headX; rw [if_pos rfl, n1, decide_eq_true (show m0.f1.length = 0 by omega), decide_eq_true p1]; rfl⟩
  have p2 : (m0.f2 == (-1)) = true := beq_iff_eq.mpr p1
  have p3 : (m0.f2 != (-1)) = false := by rw [p1]; rfl
  clear n0 p0 p1 bad u0
  go_enter Try.func42, Try.ntmps42
  go_wp2
  clear z0 z1 z2 z3 z4 n1 n2 n3 u1 u2 p2 p3 e2 e3 e4 e5 q0 q1
  go_loopg [3, 4, 5] l.length (fun gg s3 s4 s5 wr => ∃ i : Nat, i ≤ l.length ∧ l.length - i ≤ gg ∧ s3 = .int .i64 i ∧ Aside0 ((List.range i).all (nodeOK l) = true) ∧ Aside0 (Below w.heap.size w wr))
  case atStart => exact ⟨0, by omega, by omega, rfl, ⟨rfl⟩, ⟨by repeat (first | exact Below.refl _ _ | apply pw_below_drewN)⟩⟩
  case round =>
    obtain ⟨i, hle, hgg, rfl, OK, HB⟩ := hrel
    by_cases hlt : i < l.length
    · have hltz : (i : Int) < (l.length : Int) := by omega
      have hi0 : (0 : Int) ≤ (i : Int) := by omega
      obtain ⟨ad', A1, c1, A3, c3, A4, c4, e, z0, z1, z2, z3, z4, i1, g1, i3, g3, i4, g4⟩ := at_T92 HR.out (i : Int) hi0 hltz
      have ea : ad = ad' := by injection e
      subst ea
      clear e
      rw [Int.toNat_natCast] at z0 z1 z2 z3 z4
      have hgd : l.getD i z92 = rd_T92 l (i : Int) := rfl
      obtain ⟨x, hx⟩ : ∃ x, x = rd_T92 l (i : Int) := ⟨_, rfl⟩
      rw [← hx] at z0 z1 z2 z3 z4 i1 g1 i3 g3 i4 g4 hgd
      clear hx
      have HX : Aside0 (nodeOK l i = nodeX (l.take i) i x) := ⟨by unfold nodeOK; rw [hgd]⟩
      have HX0 : Aside0 (i = 0 → x = m0) := ⟨fun h => by subst h; exact hgd.symm.trans HG.out⟩
      clear hgd
      replace z0 := (HB.out.cell (World.block_lt_of_cell? w _ z0)).trans z0
      replace z1 := (HB.out.cell (World.block_lt_of_cell? w _ z1)).trans z1
      replace z2 := (HB.out.cell (World.block_lt_of_cell? w _ z2)).trans z2
      replace z3 := (HB.out.cell (World.block_lt_of_cell? w _ z3)).trans z3
      replace z4 := (HB.out.cell (World.block_lt_of_cell? w _ z4)).trans z4
      have I1 := Aside0.mk i1
      have G1 := Aside0.mk g1
      have I3 := Aside0.mk i3
      have G3 := Aside0.mk g3
      have hm3 := g3.2.1
      clear i1 g1 i3 g3 i4 g4
      have BN := Aside0.mk (blk_new wr (.cells #[.string x.f0, .slice A1 x.f1.length c1, .int .i64 x.f2, .slice A3 x.f3.length c3, .slice A4 x.f4.length c4] 92))
      have HN := Aside0.mk (below_alloc HB.out (.cells #[.string x.f0, .slice A1 x.f1.length c1, .int .i64 x.f2, .slice A3 x.f3.length c3, .slice A4 x.f4.length c4] 92))
      go_upto_region 7 with (fail)
      go_cut [3, 4, 81] (fun s3 s4 s81 wx => s3 = .int .i64 i ∧ s4 = .pointer (some ⟨wr.heap.size, 0, none⟩) ∧ s81 = .bool (!(headX (l.take i) i x)) ∧ Aside0 (wx.heap[wr.heap.size]? = some (.cells #[.string x.f0, .slice A1 x.f1.length c1, .int .i64 x.f2, .slice A3 x.f3.length c3, .slice A4 x.f4.length c4] 92 (0, 0))) ∧ Aside0 (Below w.heap.size w wx))
      case first =>
        clear OK hgg hle
        by_cases hz : (i : Int) ≤ 0
        · have hz' : ¬ (0 : Int) < (i : Int) := by omega
          have HD : Aside0 (headX (l.take i) i x = true) := ⟨by
            have h0 : i = 0 := by omega
            rw [HX0.out h0, h0]
            exact HH.out⟩
          clear hz
          go_wp2_with fail
          go_meet
          exact ⟨rfl, rfl, by rw [HD.out]; rfl, BN, HN⟩
        · have hz' : (0 : Int) < (i : Int) := by omega
          have hin : ¬ i = 0 := by omega
          have hdx : headX (l.take i) i x = (propNamedB x.f0 && (decide (x.f1.length ≤ 4) && (decide (0 ≤ x.f2) && (decide (x.f2 < (i : Int)) && !((l.take i).any (isB x.f2 x.f0 x.f1)))))) := if_neg hin
          have HD := Aside0.mk hdx
          clear hz hin hdx
          have STEP : ∀ (W W' : World), Below w.heap.size w W → Below W.heap.size W W' → Below w.heap.size w W' := fun W W' h k => below_then h h.size k
          have KEEP : ∀ (W W' : World), W.heap[wr.heap.size]? = some (.cells #[.string x.f0, .slice A1 x.f1.length c1, .int .i64 x.f2, .slice A3 x.f3.length c3, .slice A4 x.f4.length c4] 92 (0, 0)) → Below W.heap.size W W' → W'.heap[wr.heap.size]? = some (.cells #[.string x.f0, .slice A1 x.f1.length c1, .int .i64 x.f2, .slice A3 x.f3.length c3, .slice A4 x.f4.length c4] 92 (0, 0)) := fun W W' h k => (k.block _ (blk_lt h)).trans h
          have ST1 := Aside0.mk STEP
          have KE1 := Aside0.mk KEEP
          clear STEP KEEP
          cases hn : propNamedB x.f0 with
          | false =>
            have N := Aside0.mk hn
            have HT := Aside0.mk (show headX (l.take i) i x = false from by rw [HD.out, hn]; rfl)
            clear hn
            go_wp2_with (go_at_call 75; refine (named75b x.f0 false N.out _).mono ?_; rintro e wF ⟨rfl, hbF⟩; have B3 := Aside0.mk (KE1.out _ _ BN.out hbF); have H3 := Aside0.mk (ST1.out _ _ HN.out hbF); have k0 := cell_of_row _ _ 0 _ _ _ B3.out; have k1 := cell_of_row _ _ 1 _ _ _ B3.out; have k2 := cell_of_row _ _ 2 _ _ _ B3.out; simp only [List.getElem?_toArray, List.getElem?_cons_succ, List.getElem?_cons_zero] at k0 k1 k2; clear hbF)
            go_meet
            exact ⟨rfl, rfl, by rw [HT.out]; rfl, B3, H3⟩
          | true =>
            have N := Aside0.mk hn
            by_cases h4 : 4 < x.f1.length
            · have h4z : (4 : Int) < (x.f1.length : Int) := by omega
              have HT := Aside0.mk (show headX (l.take i) i x = false from by rw [HD.out, decide_eq_false (show ¬ x.f1.length ≤ 4 by omega), Bool.false_and, Bool.and_false])
              clear hn
              go_wp2_with (go_at_call 75; refine (named75b x.f0 true N.out _).mono ?_; rintro e wF ⟨rfl, hbF⟩; have B3 := Aside0.mk (KE1.out _ _ BN.out hbF); have H3 := Aside0.mk (ST1.out _ _ HN.out hbF); have k0 := cell_of_row _ _ 0 _ _ _ B3.out; have k1 := cell_of_row _ _ 1 _ _ _ B3.out; have k2 := cell_of_row _ _ 2 _ _ _ B3.out; simp only [List.getElem?_toArray, List.getElem?_cons_succ, List.getElem?_cons_zero] at k0 k1 k2; clear hbF)
              go_meet
              exact ⟨rfl, rfl, by rw [HT.out]; rfl, B3, H3⟩
            · have h4z : ¬ (4 : Int) < (x.f1.length : Int) := by omega
              by_cases hp : x.f2 < 0
              · have HT := Aside0.mk (show headX (l.take i) i x = false from by rw [HD.out, decide_eq_false (show ¬ 0 ≤ x.f2 by omega), Bool.false_and, Bool.and_false, Bool.and_false])
                clear hn h4
                go_wp2_with (go_at_call 75; refine (named75b x.f0 true N.out _).mono ?_; rintro e wF ⟨rfl, hbF⟩; have B3 := Aside0.mk (KE1.out _ _ BN.out hbF); have H3 := Aside0.mk (ST1.out _ _ HN.out hbF); have k0 := cell_of_row _ _ 0 _ _ _ B3.out; have k1 := cell_of_row _ _ 1 _ _ _ B3.out; have k2 := cell_of_row _ _ 2 _ _ _ B3.out; simp only [List.getElem?_toArray, List.getElem?_cons_succ, List.getElem?_cons_zero] at k0 k1 k2; clear hbF)
                go_meet
                exact ⟨rfl, rfl, by rw [HT.out]; rfl, B3, H3⟩
              · by_cases hq : (i : Int) ≤ x.f2
                · have HT := Aside0.mk (show headX (l.take i) i x = false from by rw [HD.out, decide_eq_false (show ¬ x.f2 < (i : Int) by omega), Bool.false_and, Bool.and_false, Bool.and_false, Bool.and_false])
                  clear hn h4
                  go_wp2_with (go_at_call 75; refine (named75b x.f0 true N.out _).mono ?_; rintro e wF ⟨rfl, hbF⟩; have B3 := Aside0.mk (KE1.out _ _ BN.out hbF); have H3 := Aside0.mk (ST1.out _ _ HN.out hbF); have k0 := cell_of_row _ _ 0 _ _ _ B3.out; have k1 := cell_of_row _ _ 1 _ _ _ B3.out; have k2 := cell_of_row _ _ 2 _ _ _ B3.out; simp only [List.getElem?_toArray, List.getElem?_cons_succ, List.getElem?_cons_zero] at k0 k1 k2; clear hbF)
                  go_meet
                  exact ⟨rfl, rfl, by rw [HT.out]; rfl, B3, H3⟩
                · cases ht : (l.take i).any (isB x.f2 x.f0 x.f1) with
                  | true =>
                    have TW := Aside0.mk ht
                    have HT := Aside0.mk (show headX (l.take i) i x = false from by rw [HD.out, ht]; simp)
                    clear hn h4 ht
                    go_wp2_with (first | (go_at_call 75; refine (named75b x.f0 true N.out _).mono ?_; rintro e wF ⟨rfl, hbF⟩; have B3 := Aside0.mk (KE1.out _ _ BN.out hbF); have H3 := Aside0.mk (ST1.out _ _ HN.out hbF); have k0 := cell_of_row _ _ 0 _ _ _ B3.out; have k1 := cell_of_row _ _ 1 _ _ _ B3.out; have k2 := cell_of_row _ _ 2 _ _ _ B3.out; simp only [List.getElem?_toArray, List.getElem?_cons_succ, List.getElem?_cons_zero] at k0 k1 k2; clear hbF) | (go_at_call 76; refine (twin76b l i (by omega) x.f2 x.f0 x.f1 _ _ _ _ w _ HR.out HC.out G1.out I1.out H3.out true TW.out).mono ?_; rintro e wG ⟨rfl, hbG⟩; have B4 := Aside0.mk (KE1.out _ _ B3.out hbG); have H4 := Aside0.mk (ST1.out _ _ H3.out hbG); clear hbG))
                    go_meet
                    exact ⟨rfl, rfl, by rw [HT.out]; rfl, B4, H4⟩
                  | false =>
                    have TW := Aside0.mk ht
                    have HO : Aside0 (headX (l.take i) i x = true) := ⟨by rw [HD.out, hn, ht, decide_eq_true (show x.f1.length ≤ 4 by omega), decide_eq_true (show 0 ≤ x.f2 by omega), decide_eq_true (show x.f2 < (i : Int) by omega)]; rfl⟩
                    clear hn h4 ht
                    go_wp2_with (first | (go_at_call 75; refine (named75b x.f0 true N.out _).mono ?_; rintro e wF ⟨rfl, hbF⟩; have B3 := Aside0.mk (KE1.out _ _ BN.out hbF); have H3 := Aside0.mk (ST1.out _ _ HN.out hbF); have k0 := cell_of_row _ _ 0 _ _ _ B3.out; have k1 := cell_of_row _ _ 1 _ _ _ B3.out; have k2 := cell_of_row _ _ 2 _ _ _ B3.out; simp only [List.getElem?_toArray, List.getElem?_cons_succ, List.getElem?_cons_zero] at k0 k1 k2; clear hbF) | (go_at_call 76; refine (twin76b l i (by omega) x.f2 x.f0 x.f1 _ _ _ _ w _ HR.out HC.out G1.out I1.out H3.out false TW.out).mono ?_; rintro e wG ⟨rfl, hbG⟩; have B4 := Aside0.mk (KE1.out _ _ B3.out hbG); have H4 := Aside0.mk (ST1.out _ _ H3.out hbG); clear hbG))
                    go_meet
                    exact ⟨rfl, rfl, by rw [HO.out, decide_eq_false (show ¬ (4 : Int) < (x.f1.length : Int) by omega), decide_eq_false (show ¬ x.f2 < 0 by omega), decide_eq_false (show ¬ (i : Int) ≤ x.f2 by omega)]; rfl, B4, H4⟩
      case rest =>
        clear BN HN z0 z1 z2 z3 z4
        obtain ⟨rfl, rfl, rfl, BN, HN⟩ := hcut
        cases hh : headX (l.take i) i x with
        | false =>
          have HT := Aside0.mk (treeB_stop hlt (HX.out.trans (nodeX_head _ _ _ hh)))
          clear hh
          go_wp2
          go_ret
          exact ⟨by rw [HT.out]; rfl, HN.out⟩
        | true =>
          have HD := Aside0.mk hh
          clear hh
          have kx3 := cell_of_row _ _ 3 _ _ _ BN.out
          have kx4 := cell_of_row _ _ 4 _ _ _ BN.out
          simp only [List.getElem?_toArray, List.getElem?_cons_succ, List.getElem?_cons_zero] at kx3 kx4
          by_cases hp3 : 16 < x.f3.length
          · have d1 : decide ((16 : Int) < (x.f3.length : Int)) = true := decide_eq_true (by omega)
            have d2 : decide (16 < x.f3.length) = true := decide_eq_true hp3
            have HT := Aside0.mk (treeB_stop hlt (HX.out.trans (nodeX_props _ _ _ (by unfold propsB; rw [decide_eq_false (show ¬ x.f3.length ≤ 16 by omega)]; rfl))))
            clear hp3
            go_wp2
            go_ret
            exact ⟨by rw [HT.out]; rfl, HN.out⟩
          have d1 : decide ((16 : Int) < (x.f3.length : Int)) = false := decide_eq_false (by omega)
          have d2 : decide (16 < x.f3.length) = false := decide_eq_false hp3
          by_cases hp4 : 16 < x.f4.length
          · have d3 : decide ((16 : Int) < (x.f4.length : Int)) = true := decide_eq_true (by omega)
            have d4 : decide (16 < x.f4.length) = true := decide_eq_true hp4
            have HT := Aside0.mk (treeB_stop hlt (HX.out.trans (nodeX_cells _ _ _ (by omega))))
            clear hp3 hp4
            go_wp2
            go_ret
            exact ⟨by rw [HT.out]; rfl, HN.out⟩
          have d3 : decide ((16 : Int) < (x.f4.length : Int)) = false := decide_eq_false (by omega)
          have d4 : decide (16 < x.f4.length) = false := decide_eq_false hp4
          go_wp2
          clear kx3 kx4 d1 d2 d3 d4
          obtain ⟨wo, rfl⟩ : ∃ wo : World, wo = wr := ⟨_, rfl⟩
          go_loopg [5] x.f3.length (fun gg2 s5 wi => ∃ j : Nat, j ≤ x.f3.length ∧ x.f3.length - j ≤ gg2 ∧ s5 = .int .i64 j ∧ Aside0 ((List.range j).all (propOK x.f3) = true) ∧ Aside0 (wi.heap[wo.heap.size]? = some (.cells #[.string x.f0, .slice A1 x.f1.length c1, .int .i64 x.f2, .slice A3 x.f3.length c3, .slice A4 x.f4.length c4] 92 (0, 0))) ∧ Aside0 (Below w.heap.size w wi))
          case atStart => exact ⟨0, by omega, by omega, rfl, ⟨rfl⟩, BN, HN⟩
          case round =>
            clear BN HN
            obtain ⟨j, hjl, hgg2, rfl, OKP, BN, HN⟩ := hrel
            have kx3 := cell_of_row _ _ 3 _ _ _ BN.out
            simp only [List.getElem?_toArray, List.getElem?_cons_succ, List.getElem?_cons_zero] at kx3
            by_cases hjt : j < x.f3.length
            · have hjz : (j : Int) < (x.f3.length : Int) := by omega
              have hj0 : (0 : Int) ≤ (j : Int) := by omega
              obtain ⟨pd, D1, d1, e, y0, y1, v1, w1⟩ := at_T102 G3.out (j : Int) hj0 hjz
              cases e
              rw [Int.toNat_natCast] at y0 y1
              have hgp : x.f3.getD j z102 = rd_T102 x.f3 (j : Int) := rfl
              obtain ⟨p, hpe⟩ : ∃ p, p = rd_T102 x.f3 (j : Int) := ⟨_, rfl⟩
              rw [← hpe] at y0 y1 v1 w1 hgp
              clear hpe v1 w1
              have HP : Aside0 (propOK x.f3 j = (propNamedB p.f0 && decide (p.f1.length ≤ 256) && !((x.f3.take j).any fun q => q.f0.toList == p.f0.toList))) := ⟨by unfold propOK; rw [hgp]⟩
              clear hgp
              have hY0 := (HN.out.cell (World.block_lt_of_cell? w _ y0)).trans y0
              have hY1 := (HN.out.cell (World.block_lt_of_cell? w _ y1)).trans y1
              clear y0 y1
              have stop : propOK x.f3 j = false → treeB l = false := fun h => treeB_stop hlt (HX.out.trans (nodeX_props _ _ _ (by unfold propsB; rw [all_stop hjt h, Bool.and_false])))
              have ST := Aside0.mk stop
              clear stop
              have p0 := eq_true hj0
              have p1 := eq_true hjz
              cases hn : propNamedB p.f0 with
              | false =>
                have NN := Aside0.mk (fun n => named75c p.f0 false hn (wr.drewN n))
                have HT := Aside0.mk (ST.out (by rw [HP.out, hn]; rfl))
                clear hn OKP
                go_wp2
                go_quiet ((go_at_call 75; exact Calls.quiet_of (NN.out _)))
                go_wp2
                go_ret
                exact ⟨by rw [HT.out]; rfl, pw_below_drewN HN.out _⟩
              | true =>
                have NN := Aside0.mk (fun n => named75c p.f0 true hn (wr.drewN n))
                by_cases hd : 256 < p.f1.length
                · have e1 : decide ((256 : Int) < (p.f1.length : Int)) = true := decide_eq_true (by omega)
                  have e2 : decide (256 < p.f1.length) = true := decide_eq_true hd
                  have HT := Aside0.mk (ST.out (by rw [HP.out, decide_eq_false (show ¬ p.f1.length ≤ 256 by omega), Bool.and_false, Bool.false_and]))
                  clear hn hd OKP
                  go_wp2
                  go_quiet ((go_at_call 75; exact Calls.quiet_of (NN.out _)))
                  go_wp2
                  go_ret
                  exact ⟨by rw [HT.out]; rfl, pw_below_drewN HN.out _⟩
                have e1 : decide ((256 : Int) < (p.f1.length : Int)) = false := decide_eq_false (by omega)
                have e2 : decide (256 < p.f1.length) = false := decide_eq_false hd
                have hlen : (x.f3.take j).length = j := by rw [List.length_take]; omega
                obtain ⟨r, hr2, hr3⟩ := find77 (x.f3.take j) (by omega) p.f0
                obtain ⟨i0, hi, hz0, hz1, hz2⟩ := info_parts info102g
                have hcut := cut_to (P := Try.prog) 90 102 .i64 Try.underlying90 hi (some pd) x.f3.length c3 (j : Int) hj0 (by omega) I3.out
                rw [Int.toNat_natCast] at hcut
                rw [hlen] at hr3
                have FF := Aside0.mk (fun n => hr3 (some pd) c3 (wr.drewN n) (by have h := Kd.C_take G3.out (show j ≤ x.f3.length by omega); rw [hlen] at h; exact Kd.C_below h (pw_below_drewN HN.out n)) (by have := I3.out; omega))
                clear hr3 hlen hz0 hz1 hz2
                cases ha : (x.f3.take j).any (fun q => q.f0.toList == p.f0.toList) with
                | true =>
                  have e3 : decide (0 ≤ r) = true := hr2.trans ha
                  have HT := Aside0.mk (ST.out (by rw [HP.out, ha]; simp))
                  clear hn hd ha hr2 OKP
                  go_wp2
                  go_quiet (first | (go_at_call 75; exact Calls.quiet_of (NN.out _)) | (go_at_call 77; exact Calls.quiet_of (FF.out _)))
                  go_wp2
                  go_ret
                  exact ⟨by rw [HT.out]; rfl, pw_below_drewN HN.out _⟩
                | false =>
                  have e3 : decide (0 ≤ r) = false := hr2.trans ha
                  have OKN : Aside0 ((List.range (j + 1)).all (propOK x.f3) = true) := ⟨range_snoc OKP.out (by rw [HP.out, hn, ha, decide_eq_true (show p.f1.length ≤ 256 by omega)]; rfl)⟩
                  clear hn hd ha hr2 OKP
                  go_wp2
                  go_quiet (first | (go_at_call 75; exact Calls.quiet_of (NN.out _)) | (go_at_call 77; exact Calls.quiet_of (FF.out _)))
                  go_wp2
                  go_roundg (x.f3.length - (j + 1))
                  case measure => omega
                  case rel => exact ⟨j + 1, by omega, by omega, by go_num, OKN, ⟨BN.out⟩, ⟨pw_below_drewN HN.out _⟩⟩
            · have hjz : ¬ (j : Int) < (x.f3.length : Int) := by omega
              have OKN : Aside0 ((List.range (i + 1)).all (nodeOK l) = true) := ⟨range_snoc OK.out (by
                rw [HX.out]
                refine nodeX_all _ _ _ HD.out ?_ (by omega)
                have e : j = x.f3.length := by omega
                have h := OKP.out
                rw [e] at h
                unfold propsB
                rw [h, decide_eq_true (show x.f3.length ≤ 16 by omega)]
                rfl)⟩
              clear OK OKP
              go_wp2
              go_roundg (l.length - (i + 1))
              case measure => omega
              case rel => exact ⟨i + 1, by omega, by omega, by go_num, OKN, HN⟩
    · have hltz : ¬ (i : Int) < (l.length : Int) := by omega
      have HT : Aside0 (treeB l = true) := ⟨by
        have e : i = l.length := by omega
        have h := OK.out
        rw [e] at h
        unfold treeB
        rw [h, decide_eq_true hl1, decide_eq_true hl2]
        rfl⟩
      clear OK
      go_wp2
      go_ret
      exact ⟨by rw [HT.out]; rfl, HB.out⟩
end Go.Proofs.Ytpalbpakeokimaa.PK
