/- tinder: a part of the proof, joined and pruned by wip/tools/prune.py out of: Gh1 -/
import Derived.Test.YtpalbpakeokimaaFGh0
namespace Go.Proofs.Ytpalbpakeokimaa.PK
set_option linter.unusedVariables false
set_option linter.unusedSimpArgs false
open Go.RowKit Go.Proofs.YtpalbpakeokimaaW.PrintWords Go.Proofs.YtpalbpakeokimaaW.PrintLast Go.Proofs.YtpalbpakeokimaaW.PrintMore
def propFits (p : S102) : Bool := decide (p.f1.length * 1 ≤ 140737488355328)
def nodeFits (x : S92) : Bool := decide (x.f1.length * 4 ≤ 140737488355328) && decide (x.f4.length * 4 ≤ 140737488355328) && decide (x.f3.length * 40 ≤ 140737488355328) && x.f3.all propFits
def treeFits (l : List S92) : Bool := decide (l.length * 96 ≤ 140737488355328) && l.all nodeFits
def tree_Copy.f (l0 : List (S92)) : Option ((List (S92))) := if treeFits l0 = true then some l0 else none
set_option maxHeartbeats 8000000 in
set_option maxRecDepth 100000 in
theorem tree_Copy.calls (A0 : Option Addr) (c0 : Nat) (l0 : List (S92)) (r : List (S92)) (w : World) (hr0 : Kd.C k92 w A0 l0.length l0) (hc0 : l0.length ≤ c0) (h : tree_Copy.f l0 = some r) :
    Calls Try.prog 53 #[.slice A0 l0.length c0] w fun e w' => ∃ v0_ : Value, e = .returned (v0_) ∧ Kd.R k92 92 w' w.heap.size (fun _ => True) v0_ r ∧ Below w.heap.size w w' := by
  unfold tree_Copy.f at h
  by_cases hfit : treeFits l0 = true
  · rw [if_pos hfit] at h
    obtain rfl := Option.some.inj h
    clear h
    have hf0 : l0.length * 96 ≤ 140737488355328 := by
      unfold treeFits at hfit
      simp only [Bool.and_eq_true, decide_eq_true_eq] at hfit
      exact hfit.1
    have hfa : ∀ x ∈ l0, nodeFits x = true := by
      unfold treeFits at hfit
      simp only [Bool.and_eq_true] at hfit
      exact List.all_eq_true.1 hfit.2
    have hcl := clone83 A0 c0 l0 w w hr0 (Below.refl _ _) hc0 hf0
    have HFA := Aside0.mk hfa
    have hmx := hr0.2.1
    clear hfit hfa hr0 hc0 hf0
    go_enter Try.func53, Try.ntmps53
    go_wp2_with (go_at_call 83; refine hcl.mono ?_; rintro e w1 ⟨v, inner, rfl, ho, hr, hb⟩; obtain ⟨A, c, hvs⟩ : ∃ A c, v = .slice A l0.length c := (by rcases ho.2 with ⟨h1, h2⟩ | ⟨g, cap, cur, h1, _⟩; exact ⟨none, 0, by rw [h1, h2]⟩; exact ⟨_, _, h1⟩); subst hvs)
    have HO := Aside0.mk ho
    have HR := Aside0.mk hr
    have HB := Aside0.mk hb
    clear ho hr hb hcl
    by_cases hn0 : l0.length = 0
    · have hRR : Kd.R k92 92 w1 w.heap.size (fun _ => True) (.slice A l0.length c) l0 :=
        ⟨fun _ _ => trivial, inner, HO.out, HR.out.1, fun q p hp => by have := (List.getElem?_eq_some_iff.1 hp).1; omega⟩
      have HRR := Aside0.mk hRR
      clear hRR
      go_loopg [3, 4, 5, 10] 0 (fun gg _ _ _ s10 wr => s10 = .int .i64 0 ∧ wr = w1)
      case atStart => exact ⟨rfl, rfl⟩
      case round =>
        obtain ⟨rfl, rfl⟩ := hrel
        have hz : ((l0.length : Nat) : Int) = 0 := by omega
        have hltz : ¬ (0 : Int) < (l0.length : Int) := by omega
        go_wp2
        go_ret
        exact ⟨.slice A l0.length c, by first | rfl | (simp; omega), HRR.out, HB.out⟩
    · obtain ⟨g, cap, cur, hv2, hg, hrow, htk⟩ := rowAt_of_own HO.out (by intro e; injection e with _ e2 _; exact hn0 e2)
      injection hv2 with e1 _ e3
      subst e1
      subst e3
      have h0row : Aside0 (RowAt w1 g 92 5 l0.length c cur) := ⟨hrow⟩
      have h0rest : Aside0 (∀ j x, l0[j]? = some x → k92.K w x (seg 5 cur j)) := ⟨by
        intro j x hx
        have hj : j < l0.length := (List.getElem?_eq_some_iff.1 hx).1
        have := HR.out.2 j x hx
        rw [← htk] at this
        have hs : ((cur.take (l0.length * 5)).drop (j * 5)).take 5 = seg 5 cur j := by
          unfold seg
          rw [List.drop_take, List.take_take, Nat.min_eq_left (by omega)]
        rw [hs] at this
        exact this⟩
      clear hrow htk
      go_loopg [3, 4, 5, 10] l0.length (fun gg _ _ _ s10 wr => ∃ (kk : Nat) (cur : List Value), kk ≤ l0.length ∧ l0.length - kk ≤ gg ∧ s10 = .int .i64 kk ∧ Aside0 (RowAt wr g 92 5 l0.length c cur) ∧ Aside0 (∀ j x, j < kk → l0[j]? = some x → k92.M wr w.heap.size (fun k => k ≠ g) x (seg 5 cur j)) ∧ Aside0 (∀ j x, kk ≤ j → l0[j]? = some x → k92.K w x (seg 5 cur j)) ∧ Aside0 (Below w.heap.size w wr))
      case atStart => exact ⟨0, cur, Nat.zero_le _, by omega, rfl, h0row, ⟨fun j x hj => absurd hj (Nat.not_lt_zero _)⟩, ⟨fun j x _ hx => h0rest.out j x hx⟩, HB⟩
      case round =>
        obtain ⟨kk, cur, hkk, hgg, rfl, ROW, DONE, REST, BW⟩ := hrel
        by_cases hlt : kk < l0.length
        · have hltz : (kk : Int) < (l0.length : Int) := by omega
          have hk0 : (0 : Int) ≤ (kk : Int) := by omega
          obtain ⟨x, hx⟩ : ∃ x, l0[kk]? = some x := ⟨_, List.getElem?_eq_getElem hlt⟩
          have hxf := HFA.out x (List.mem_of_getElem? hx)
          unfold nodeFits at hxf
          simp only [Bool.and_eq_true, decide_eq_true_eq] at hxf
          obtain ⟨⟨⟨f1, f4⟩, f3⟩, fp⟩ := hxf
          obtain ⟨A1, c1, A3, c3, A4, c4, hseg, l1, g1, l3, g3, l4, g4⟩ := k92_open (REST.out kk x (Nat.le_refl _) hx)
          have q1 : cur[kk * 5 + 1]? = some (.slice A1 x.f1.length c1) := by rw [← seg_get (sz := 5) (by omega), hseg]; rfl
          have q3 : cur[kk * 5 + 3]? = some (.slice A3 x.f3.length c3) := by rw [← seg_get (sz := 5) (by omega), hseg]; rfl
          have q4 : cur[kk * 5 + 4]? = some (.slice A4 x.f4.length c4) := by rw [← seg_get (sz := 5) (by omega), hseg]; rfl
          have fit1 : Aside0 (slices_Clone_uint32_uint32.f x.f1 = some x.f1) := ⟨if_pos f1⟩
          have fit4 : Aside0 (slices_Clone_uint32_uint32.f x.f4 = some x.f4) := ⟨if_pos f4⟩
          have fit3 := Aside0.mk f3
          have fitp := Aside0.mk fp
          have HSEG := Aside0.mk hseg
          have HX := Aside0.mk hx
          replace l1 := Aside0.mk l1
          replace g1 := Aside0.mk g1
          replace l3 := Aside0.mk l3
          replace g3 := Aside0.mk g3
          replace l4 := Aside0.mk l4
          replace g4 := Aside0.mk g4
          clear hseg hx f1 f4 f3 fp
          go_wp2
          refine start_ (n := 27) (S := fun w' => w'.cell? ⟨g, kk * 5 + 1, none⟩ = some (.slice A1 x.f1.length c1) ∧ w'.cell? ⟨g, kk * 5 + 4, none⟩ = some (.slice A4 x.f4.length c4) ∧ w'.cell? ⟨g, kk * 5 + 3, none⟩ = some (.slice A3 x.f3.length c3)) (ds := [20, 23, 26]) #[false, false, false, false, false, false, false, false, false, false, false, false, false, false, false, false, false, false, false, false, false, false, false, false, false, false, false] (by kernel_rfl) rfl rfl ⟨ROW.out.cell q1, ROW.out.cell q4, ROW.out.cell q3⟩ (fun hHeld => ?_)
          obtain ⟨W2, hW2⟩ : ∃ W2, wr.drew = W2 := ⟨_, rfl⟩
          have ROW2 : Aside0 (RowAt W2 g 92 5 l0.length c cur) := ⟨by rw [← hW2]; exact ROW.out⟩
          have B2 : Aside0 (Below w.heap.size w W2) := ⟨by rw [← hW2]; exact below_drew BW.out⟩
          have D2 : Aside0 (∀ j x, j < kk → l0[j]? = some x → k92.M W2 w.heap.size (fun k => k ≠ g) x (seg 5 cur j)) := ⟨by rw [← hW2]; exact fun j x hj hx => DONE.out j x hj hx⟩
          rw [hW2] at hHeld ⊢
          clear hW2 ROW BW DONE
          refine pure_ (i := 0) (N := some 16) (v := ?_) (a' := ?_) #[true, false, false, false, false, false, false, false, false, false, false, false, false, false, false, false, false, false, false, false, false, false, false, false, false, false, false] rfl rfl (by kernel_rfl) (fun _ _ _ h => h) (Or.inl ⟨by rfl, ?_⟩) ?_ ?_
          rotate_left
          · intro w'
            go_simp
            with_reducible rfl
          rotate_left
          · simp only [Act.put, List.setIfInBounds_toArray, List.set_cons_zero, List.set_cons_succ]
            rfl
          refine pure_ (i := 1) (N := some 17) (v := ?_) (a' := ?_) #[true, true, false, false, false, false, false, false, false, false, false, false, false, false, false, false, false, false, false, false, false, false, false, false, false, false, false] rfl rfl (by kernel_rfl) (fun _ _ _ h => h) (Or.inl ⟨by rfl, ?_⟩) ?_ ?_
          rotate_left
          · intro w'
            go_simp
            with_reducible rfl
          rotate_left
          · simp only [Act.put, List.setIfInBounds_toArray, List.set_cons_zero, List.set_cons_succ]
            rfl
          refine pure_ (i := 2) (N := some 18) (v := ?_) (a' := ?_) #[true, true, true, false, false, false, false, false, false, false, false, false, false, false, false, false, false, false, false, false, false, false, false, false, false, false, false] rfl rfl (by kernel_rfl) (fun _ _ _ h => h) (Or.inl ⟨by rfl, ?_⟩) ?_ ?_
          rotate_left
          · intro w'
            go_simp
            with_reducible rfl
          rotate_left
          · simp only [Act.put, List.setIfInBounds_toArray, List.set_cons_zero, List.set_cons_succ]
            rfl
          refine pure_ (i := 3) (N := some 19) (v := ?_) (a' := ?_) #[true, true, true, true, false, false, false, false, false, false, false, false, false, false, false, false, false, false, false, false, false, false, false, false, false, false, false] rfl rfl (by kernel_rfl) (fun _ _ _ h => h) (Or.inl ⟨by rfl, ?_⟩) ?_ ?_
          rotate_left
          · intro w'
            go_simp
            with_reducible rfl
          rotate_left
          · simp only [Act.put, List.setIfInBounds_toArray, List.set_cons_zero, List.set_cons_succ]
            rfl
          refine pure_ (i := 4) (N := some 20) (v := ?_) (a' := ?_) #[true, true, true, true, true, false, false, false, false, false, false, false, false, false, false, false, false, false, false, false, false, false, false, false, false, false, false] rfl rfl (by kernel_rfl) (fun _ _ _ h => h) (Or.inl ⟨by rfl, ?_⟩) ?_ ?_
          rotate_left
          · intro w'
            go_simp
            with_reducible rfl
          rotate_left
          · simp only [Act.put, List.setIfInBounds_toArray, List.set_cons_zero, List.set_cons_succ]
            rfl
          refine pure_ (i := 5) (N := some 21) (v := ?_) (a' := ?_) #[true, true, true, true, true, true, false, false, false, false, false, false, false, false, false, false, false, false, false, false, false, false, false, false, false, false, false] rfl rfl (by kernel_rfl) (fun _ _ _ h => h) (Or.inl ⟨by rfl, ?_⟩) ?_ ?_
          rotate_left
          · intro w'
            go_simp
            with_reducible rfl
          rotate_left
          · simp only [Act.put, List.setIfInBounds_toArray, List.set_cons_zero, List.set_cons_succ]
            rfl
          refine take_ (i := 6) (N := some 22) (v := ?_) (a' := ?_) #[true, true, true, true, true, true, true, false, false, false, false, false, false, false, false, false, false, false, false, false, false, false, false, false, false, false, false] rfl rfl (by kernel_rfl) (fun _ _ _ h => h) (Or.inl ⟨by rfl, ?_⟩) hHeld ?_ ?_
          rotate_left
          · rintro w' ⟨s0, s1, s2⟩
            go_simp
            with_reducible rfl
          rotate_left
          · simp only [Act.put, List.setIfInBounds_toArray, List.set_cons_zero, List.set_cons_succ]
            rfl
          refine pure_ (i := 8) (N := some 24) (v := ?_) (a' := ?_) #[true, true, true, true, true, true, true, false, true, false, false, false, false, false, false, false, false, false, false, false, false, false, false, false, false, false, false] rfl rfl (by kernel_rfl) (fun _ _ _ h => h) (Or.inl ⟨by rfl, ?_⟩) ?_ ?_
          rotate_left
          · intro w'
            go_simp
            with_reducible rfl
          rotate_left
          · simp only [Act.put, List.setIfInBounds_toArray, List.set_cons_zero, List.set_cons_succ]
            rfl
          refine pure_ (i := 9) (N := some 25) (v := ?_) (a' := ?_) #[true, true, true, true, true, true, true, false, true, true, false, false, false, false, false, false, false, false, false, false, false, false, false, false, false, false, false] rfl rfl (by kernel_rfl) (fun _ _ _ h => h) (Or.inl ⟨by rfl, ?_⟩) ?_ ?_
          rotate_left
          · intro w'
            go_simp
            with_reducible rfl
          rotate_left
          · simp only [Act.put, List.setIfInBounds_toArray, List.set_cons_zero, List.set_cons_succ]
            rfl
          refine pure_ (i := 10) (N := some 26) (v := ?_) (a' := ?_) #[true, true, true, true, true, true, true, false, true, true, true, false, false, false, false, false, false, false, false, false, false, false, false, false, false, false, false] rfl rfl (by kernel_rfl) (fun _ _ _ h => h) (Or.inl ⟨by rfl, ?_⟩) ?_ ?_
          rotate_left
          · intro w'
            go_simp
            with_reducible rfl
          rotate_left
          · simp only [Act.put, List.setIfInBounds_toArray, List.set_cons_zero, List.set_cons_succ]
            rfl
          refine take_ (i := 11) (N := some 27) (v := ?_) (a' := ?_) #[true, true, true, true, true, true, true, false, true, true, true, true, false, false, false, false, false, false, false, false, false, false, false, false, false, false, false] rfl rfl (by kernel_rfl) (fun _ _ _ h => h) (Or.inl ⟨by rfl, ?_⟩) hHeld ?_ ?_
          rotate_left
          · rintro w' ⟨s0, s1, s2⟩
            go_simp
            with_reducible rfl
          rotate_left
          · simp only [Act.put, List.setIfInBounds_toArray, List.set_cons_zero, List.set_cons_succ]
            rfl
          refine pure_ (i := 13) (N := some 29) (v := ?_) (a' := ?_) #[true, true, true, true, true, true, true, false, true, true, true, true, false, true, false, false, false, false, false, false, false, false, false, false, false, false, false] rfl rfl (by kernel_rfl) (fun _ _ _ h => h) (Or.inl ⟨by rfl, ?_⟩) ?_ ?_
          rotate_left
          · intro w'
            go_simp
            with_reducible rfl
          rotate_left
          · simp only [Act.put, List.setIfInBounds_toArray, List.set_cons_zero, List.set_cons_succ]
            rfl
          refine pure_ (i := 14) (N := some 30) (v := ?_) (a' := ?_) #[true, true, true, true, true, true, true, false, true, true, true, true, false, true, true, false, false, false, false, false, false, false, false, false, false, false, false] rfl rfl (by kernel_rfl) (fun _ _ _ h => h) (Or.inl ⟨by rfl, ?_⟩) ?_ ?_
          rotate_left
          · intro w'
            go_simp
            with_reducible rfl
          rotate_left
          · simp only [Act.put, List.setIfInBounds_toArray, List.set_cons_zero, List.set_cons_succ]
            rfl
          refine pure_ (i := 15) (N := some 31) (v := ?_) (a' := ?_) #[true, true, true, true, true, true, true, false, true, true, true, true, false, true, true, true, false, false, false, false, false, false, false, false, false, false, false] rfl rfl (by kernel_rfl) (fun _ _ _ h => h) (Or.inl ⟨by rfl, ?_⟩) ?_ ?_
          rotate_left
          · intro w'
            go_simp
            with_reducible rfl
          rotate_left
          · simp only [Act.put, List.setIfInBounds_toArray, List.set_cons_zero, List.set_cons_succ]
            rfl
          refine take_ (i := 16) (N := some 32) (v := ?_) (a' := ?_) #[true, true, true, true, true, true, true, false, true, true, true, true, false, true, true, true, true, false, false, false, false, false, false, false, false, false, false] rfl rfl (by kernel_rfl) (fun _ _ _ h => h) (Or.inl ⟨by rfl, ?_⟩) hHeld ?_ ?_
          rotate_left
          · rintro w' ⟨s0, s1, s2⟩
            go_simp
            with_reducible rfl
          rotate_left
          · simp only [Act.put, List.setIfInBounds_toArray, List.set_cons_zero, List.set_cons_succ]
            rfl
          refine one_ (i := 7) (N := some 23) #[true, true, true, true, true, true, true, true, true, true, true, true, false, true, true, true, true, false, false, false, false, false, false, false, false, false, false] rfl rfl (by kernel_rfl) (by decide) (fun K hK => ?_)
          refine goes_ Try.func48 (by kernel_rfl) rfl #[.slice A1 x.f1.length c1] (by rfl) rfl rfl (by (try simp only [List.map_toArray, List.map_cons, List.map_nil]); rfl) ?_
          refine (slices_Clone_uint32_uint32.calls A1 c1 x.f1 x.f1 _ (Kd.C_below g1.out B2.out) l1.out fit1.out).mono ?_
          rintro e W3 ⟨v1, rfl, ho, hb⟩
          refine ⟨_, rfl, ?_⟩
          have V1 := Aside0.mk ho
          have ROW3 := Aside0.mk (ROW2.out.kept (hb.block _ (blk_lt ROW2.out.1)))
          have B3 := Aside0.mk (below_then B2.out B2.out.size hb)
          have Z3 := Aside0.mk hb
          clear ho hb
          refine hK.out _ _ ⟨ROW3.out.cell q1, ROW3.out.cell q4, ROW3.out.cell q3⟩ (fun hHeld => ?_)
          clear hK K
          refine norm_ (a' := ?_) ?_ ?_
          rotate_left
          · show Act.put _ (some 23) _ = _
            simp only [Act.put, List.setIfInBounds_toArray, List.set_cons_zero, List.set_cons_succ]
            rfl
          refine one_ (i := 12) (N := some 28) #[true, true, true, true, true, true, true, true, true, true, true, true, true, true, true, true, true, false, false, false, false, false, false, false, false, false, false] rfl rfl (by kernel_rfl) (by decide) (fun K hK => ?_)
          refine goes_ Try.func48 (by kernel_rfl) rfl #[.slice A4 x.f4.length c4] (by rfl) rfl rfl (by (try simp only [List.map_toArray, List.map_cons, List.map_nil]); rfl) ?_
          refine (slices_Clone_uint32_uint32.calls A4 c4 x.f4 x.f4 _ (Kd.C_below g4.out B3.out) l4.out fit4.out).mono ?_
          rintro e W4 ⟨v4, rfl, ho, hb⟩
          refine ⟨_, rfl, ?_⟩
          have V4 := Aside0.mk ho
          have ROW4 := Aside0.mk (ROW3.out.kept (hb.block _ (blk_lt ROW3.out.1)))
          have B4 := Aside0.mk (below_then B3.out B3.out.size hb)
          have Z4 := Aside0.mk hb
          clear ho hb
          refine hK.out _ _ ⟨ROW4.out.cell q1, ROW4.out.cell q4, ROW4.out.cell q3⟩ (fun hHeld => ?_)
          clear hK K
          refine norm_ (a' := ?_) ?_ ?_
          rotate_left
          · show Act.put _ (some 28) _ = _
            simp only [Act.put, List.setIfInBounds_toArray, List.set_cons_zero, List.set_cons_succ]
            rfl
          refine one_ (i := 17) (N := some 33) #[true, true, true, true, true, true, true, true, true, true, true, true, true, true, true, true, true, true, false, false, false, false, false, false, false, false, false] rfl rfl (by kernel_rfl) (by decide) (fun K hK => ?_)
          refine goes_ Try.func84 (by kernel_rfl) rfl #[.slice A3 x.f3.length c3] (by rfl) rfl rfl (by (try simp only [List.map_toArray, List.map_cons, List.map_nil]); rfl) ?_
          refine (clone84 A3 c3 x.f3 w _ g3.out B4.out l3.out fit3.out).mono ?_
          rintro e W5 ⟨vp, innerp, rfl, ho, hr, hb⟩
          refine ⟨_, rfl, ?_⟩
          have VP := Aside0.mk ho
          have RP := Aside0.mk hr
          have ROW5 := Aside0.mk (ROW4.out.kept (hb.block _ (blk_lt ROW4.out.1)))
          have B5 := Aside0.mk (below_then B4.out B4.out.size hb)
          have Z5 := Aside0.mk hb
          clear ho hb hr
          refine hK.out _ _ ⟨ROW5.out.cell q1, ROW5.out.cell q4, ROW5.out.cell q3⟩ (fun hHeld => ?_)
          clear hK K
          refine norm_ (a' := ?_) ?_ ?_
          rotate_left
          · show Act.put _ (some 33) _ = _
            simp only [Act.put, List.setIfInBounds_toArray, List.set_cons_zero, List.set_cons_succ]
            rfl
          refine pure_ (i := 18) (N := some 34) (v := ?_) (a' := ?_) #[true, true, true, true, true, true, true, true, true, true, true, true, true, true, true, true, true, true, true, false, false, false, false, false, false, false, false] rfl rfl (by kernel_rfl) (fun _ _ _ h => h) (Or.inl ⟨by rfl, ?_⟩) ?_ ?_
          rotate_left
          · intro w'
            go_simp
            with_reducible rfl
          rotate_left
          · simp only [Act.put, List.setIfInBounds_toArray, List.set_cons_zero, List.set_cons_succ]
            rfl
          refine pure_ (i := 19) (N := some 35) (v := ?_) (a' := ?_) #[true, true, true, true, true, true, true, true, true, true, true, true, true, true, true, true, true, true, true, true, false, false, false, false, false, false, false] rfl rfl (by kernel_rfl) (fun _ _ _ h => h) (Or.inl ⟨by rfl, ?_⟩) ?_ ?_
          rotate_left
          · intro w'
            go_simp
            with_reducible rfl
          rotate_left
          · simp only [Act.put, List.setIfInBounds_toArray, List.set_cons_zero, List.set_cons_succ]
            rfl
          obtain ⟨Av1, cv1, ev1⟩ := Kd.R_slice V1.out
          subst ev1
          obtain ⟨Av4, cv4, ev4⟩ := Kd.R_slice V4.out
          subst ev4
          obtain ⟨Avp, cvp, evp⟩ : ∃ A c, vp = .slice A x.f3.length c := (by rcases VP.out.2 with ⟨h1, h2⟩ | ⟨g, cap, cur, h1, _⟩; exact ⟨none, 0, by rw [h1, h2]⟩; exact ⟨_, _, h1⟩)
          subst evp
          have L1 : kk * 5 + 5 ≤ cur.length := by have h4 := ROW5.out.2.2.2; have h2 := ROW5.out.2.1; rw [h4]; omega
          refine last_ (i := 20) (N := none) #[true, true, true, true, true, true, true, true, true, true, true, true, true, true, true, true, true, true, true, true, true, false, false, false, false, false, false] rfl rfl (by kernel_rfl) (by decide) (fun K hK => ?_)
          have hs := ROW5.out.cell (show (cur)[kk * 5 + 1]? = some (.slice A1 x.f1.length c1) from by simp [List.getElem?_set, q1, q3, q4])
          have hf := ROW5.out.frozen (kk * 5 + 1)
          refine skip_ (w1 := ?_) (by rfl) rfl ?_ ?_
          rotate_left
          · go_simp
            rfl
          refine hK.out _ _ ?_
          clear hK K
          obtain ⟨W6, hW6⟩ : ∃ W6, W5.setCell ⟨g, kk * 5 + 1, none⟩ (.slice Av1 x.f1.length cv1) = W6 := ⟨_, rfl⟩
          have ROW6 := Aside0.mk (ROW5.out.set (kk * 5 + 1) (.slice Av1 x.f1.length cv1))
          rw [hW6] at ROW6
          have FW6 : Aside0 (∀ k, k ≠ g → W6.heap[k]? = W5.heap[k]?) := ⟨fun k hk => by rw [← hW6]; exact Below.heap_setCell _ _ _ _ hk⟩
          have YW6 : Aside0 (W6.heap.size = W5.heap.size) := ⟨by rw [← hW6]; simp⟩
          rw [hW6]
          have BW6 : Aside0 (Below w.heap.size w W6) := ⟨by rw [← hW6]; exact B5.out.setCell (p := ⟨g, kk * 5 + 1, none⟩) hg _⟩
          clear hW6 hs hf
          refine pure_ (i := 21) (N := some 36) (v := ?_) (a' := ?_) #[true, true, true, true, true, true, true, true, true, true, true, true, true, true, true, true, true, true, true, true, true, true, false, false, false, false, false] rfl rfl (by kernel_rfl) (fun _ _ _ h => h) (Or.inl ⟨by rfl, ?_⟩) ?_ ?_
          rotate_left
          · intro w'
            go_simp
            with_reducible rfl
          rotate_left
          · simp only [Act.put, List.setIfInBounds_toArray, List.set_cons_zero, List.set_cons_succ]
            rfl
          refine pure_ (i := 22) (N := some 37) (v := ?_) (a' := ?_) #[true, true, true, true, true, true, true, true, true, true, true, true, true, true, true, true, true, true, true, true, true, true, true, false, false, false, false] rfl rfl (by kernel_rfl) (fun _ _ _ h => h) (Or.inl ⟨by rfl, ?_⟩) ?_ ?_
          rotate_left
          · intro w'
            go_simp
            with_reducible rfl
          rotate_left
          · simp only [Act.put, List.setIfInBounds_toArray, List.set_cons_zero, List.set_cons_succ]
            rfl
          refine last_ (i := 23) (N := none) #[true, true, true, true, true, true, true, true, true, true, true, true, true, true, true, true, true, true, true, true, true, true, true, true, false, false, false] rfl rfl (by kernel_rfl) (by decide) (fun K hK => ?_)
          have hs := ROW6.out.cell (show (cur.set (kk * 5 + 1) (.slice Av1 x.f1.length cv1))[kk * 5 + 4]? = some (.slice A4 x.f4.length c4) from by simp [List.getElem?_set, q1, q3, q4])
          have hf := ROW6.out.frozen (kk * 5 + 4)
          refine skip_ (w1 := ?_) (by rfl) rfl ?_ ?_
          rotate_left
          · go_simp
            rfl
          refine hK.out _ _ ?_
          clear hK K
          obtain ⟨W7, hW7⟩ : ∃ W7, W6.setCell ⟨g, kk * 5 + 4, none⟩ (.slice Av4 x.f4.length cv4) = W7 := ⟨_, rfl⟩
          have ROW7 := Aside0.mk (ROW6.out.set (kk * 5 + 4) (.slice Av4 x.f4.length cv4))
          rw [hW7] at ROW7
          have FW7 : Aside0 (∀ k, k ≠ g → W7.heap[k]? = W6.heap[k]?) := ⟨fun k hk => by rw [← hW7]; exact Below.heap_setCell _ _ _ _ hk⟩
          have YW7 : Aside0 (W7.heap.size = W6.heap.size) := ⟨by rw [← hW7]; simp⟩
          rw [hW7]
          have BW7 : Aside0 (Below w.heap.size w W7) := ⟨by rw [← hW7]; exact BW6.out.setCell (p := ⟨g, kk * 5 + 4, none⟩) hg _⟩
          clear hW7 hs hf
          refine pure_ (i := 24) (N := some 38) (v := ?_) (a' := ?_) #[true, true, true, true, true, true, true, true, true, true, true, true, true, true, true, true, true, true, true, true, true, true, true, true, true, false, false] rfl rfl (by kernel_rfl) (fun _ _ _ h => h) (Or.inl ⟨by rfl, ?_⟩) ?_ ?_
          rotate_left
          · intro w'
            go_simp
            with_reducible rfl
          rotate_left
          · simp only [Act.put, List.setIfInBounds_toArray, List.set_cons_zero, List.set_cons_succ]
            rfl
          refine pure_ (i := 25) (N := some 39) (v := ?_) (a' := ?_) #[true, true, true, true, true, true, true, true, true, true, true, true, true, true, true, true, true, true, true, true, true, true, true, true, true, true, false] rfl rfl (by kernel_rfl) (fun _ _ _ h => h) (Or.inl ⟨by rfl, ?_⟩) ?_ ?_
          rotate_left
          · intro w'
            go_simp
            with_reducible rfl
          rotate_left
          · simp only [Act.put, List.setIfInBounds_toArray, List.set_cons_zero, List.set_cons_succ]
            rfl
          refine last_ (i := 26) (N := none) #[true, true, true, true, true, true, true, true, true, true, true, true, true, true, true, true, true, true, true, true, true, true, true, true, true, true, true] rfl rfl (by kernel_rfl) (by decide) (fun K hK => ?_)
          have hs := ROW7.out.cell (show ((cur.set (kk * 5 + 1) (.slice Av1 x.f1.length cv1)).set (kk * 5 + 4) (.slice Av4 x.f4.length cv4))[kk * 5 + 3]? = some (.slice A3 x.f3.length c3) from by simp [List.getElem?_set, q1, q3, q4])
          have hf := ROW7.out.frozen (kk * 5 + 3)
          refine skip_ (w1 := ?_) (by rfl) rfl ?_ ?_
          rotate_left
          · go_simp
            rfl
          refine hK.out _ _ ?_
          clear hK K
          obtain ⟨W8, hW8⟩ : ∃ W8, W7.setCell ⟨g, kk * 5 + 3, none⟩ (.slice Avp x.f3.length cvp) = W8 := ⟨_, rfl⟩
          have ROW8 := Aside0.mk (ROW7.out.set (kk * 5 + 3) (.slice Avp x.f3.length cvp))
          rw [hW8] at ROW8
          have FW8 : Aside0 (∀ k, k ≠ g → W8.heap[k]? = W7.heap[k]?) := ⟨fun k hk => by rw [← hW8]; exact Below.heap_setCell _ _ _ _ hk⟩
          have YW8 : Aside0 (W8.heap.size = W7.heap.size) := ⟨by rw [← hW8]; simp⟩
          rw [hW8]
          have BW8 : Aside0 (Below w.heap.size w W8) := ⟨by rw [← hW8]; exact BW7.out.setCell (p := ⟨g, kk * 5 + 3, none⟩) hg _⟩
          clear hW8 hs hf
          refine done_ (by kernel_rfl) ?_
          have hgS : g < W2.heap.size := blk_lt ROW2.out.1
          have z23 : W2.heap.size ≤ W3.heap.size := Z3.out.size
          have z34 : W3.heap.size ≤ W4.heap.size := Z4.out.size
          have z45 : W4.heap.size ≤ W5.heap.size := Z5.out.size
          have hF8 : ∀ k, k ≠ g → W8.heap[k]? = W5.heap[k]? := fun k hk => (FW8.out k hk).trans ((FW7.out k hk).trans (FW6.out k hk))
          have z58 : W8.heap.size = W5.heap.size := YW8.out.trans (YW7.out.trans YW6.out)
          have hbW2 : w.heap.size ≤ W2.heap.size := B2.out.size
          have V18 : Aside0 (Kd.R (Kd.int .u32) 31 W8 w.heap.size (fun k => k ≠ g ∧ k < W4.heap.size) (.slice Av1 x.f1.length cv1) x.f1) := ⟨Kd.R_mono (Kd.R_step (Kd.R_bound V1.out |> fun h => Kd.R_lower h hbW2) (fun k hk _ => (hF8 k (by have := hk.2.1; omega)).trans ((Z5.out.block k (by have := hk.2.2.1; omega)).trans (Z4.out.block k hk.2.2.1)))) (fun k hk => ⟨by have := hk.2.1; omega, by have := hk.2.2.1; omega⟩)⟩
          have V48 : Aside0 (Kd.R (Kd.int .u32) 31 W8 w.heap.size (fun k => k ≠ g ∧ k < W4.heap.size) (.slice Av4 x.f4.length cv4) x.f4) := ⟨Kd.R_mono (Kd.R_step (Kd.R_bound V4.out |> fun h => Kd.R_lower h (Nat.le_trans hbW2 z23)) (fun k hk _ => (hF8 k (by have := hk.2.1; omega)).trans (Z5.out.block k hk.2.2.1))) (fun k hk => ⟨by have := hk.2.1; omega, hk.2.2.1⟩)⟩
          have D8 : Aside0 (∀ j x, j < kk → l0[j]? = some x → k92.M W8 w.heap.size (fun k => k ≠ g ∧ k < W4.heap.size) x (seg 5 cur j)) := ⟨fun j x hj hx => k92.M_mono (fun k hk => ⟨hk.1, by have := hk.2.2.1; omega⟩) (Kd.M_step (k92.M_bound (D2.out j x hj hx)) (fun k hk _ => (hF8 k hk.1).trans ((Z5.out.block k (by have := hk.2.2.1; omega)).trans ((Z4.out.block k (by have := hk.2.2.1; omega)).trans (Z3.out.block k hk.2.2.1)))))⟩
          have qp := ROW8.out.cell (show (((cur.set (kk * 5 + 1) (.slice Av1 x.f1.length cv1)).set (kk * 5 + 4) (.slice Av4 x.f4.length cv4)).set (kk * 5 + 3) (.slice Avp x.f3.length cvp))[kk * 5 + 3]? = some (.slice Avp x.f3.length cvp) from by simp [List.getElem?_set]; omega)
          clear V1 V4 D2 ROW2 ROW3 ROW4 ROW6 ROW7 hHeld FW6 FW7 FW8 YW6 YW7 YW8
          go_wp2
          by_cases hm0 : x.f3.length = 0
          · have RPR : Aside0 (Kd.R k102 102 W8 w.heap.size (fun k => k ≠ g) (.slice Avp x.f3.length cvp) x.f3) := ⟨by
              refine ⟨fun k hk => ?_, innerp, ⟨VP.out.1, ?_⟩, RP.out.1, fun q p hp => by have := (List.getElem?_eq_some_iff.1 hp).1; omega⟩
              · have := own_base VP.out k hk; omega
              · rcases VP.out.2 with hv | ⟨gp, cap, cells, hv, hb, h1, h2⟩
                · exact .inl hv
                · exact .inr ⟨gp, cap, cells, hv, by omega, (hF8 gp (by omega)).trans h1, h2⟩⟩
            clear VP RP hF8 qp
            go_loopg [5, 45] 0 (fun gg2 _ s45 wi => s45 = .int .i64 0 ∧ wi = W8)
            case atStart => exact ⟨rfl, rfl⟩
            case round =>
              obtain ⟨rfl, rfl⟩ := hrel
              have hzz : ((x.f3.length : Nat) : Int) = 0 := by omega
              have hltzz : ¬ (0 : Int) < (x.f3.length : Int) := by omega
              go_wp2
              go_roundg (l0.length - (kk + 1))
              case measure => omega
              case rel =>
                refine ⟨kk + 1, _, by omega, by omega, by go_num, ROW8, ⟨fun j x' hj hx' => ?_⟩, ⟨fun j x' hj hx' => ?_⟩, BW8⟩
                · by_cases e : j = kk
                  · subst e
                    have hxx : x' = x := by have h1 := HX.out; rw [h1] at hx'; exact (Option.some.inj hx').symm
                    subst hxx
                    rw [seg_set_same (by omega), seg_set_same (by omega), seg_set_same (by omega), HSEG.out]
                    exact k92_mkM _ _ _ x' (Kd.R_mono V18.out (fun k hk => hk.1)) RPR.out (Kd.R_mono V48.out (fun k hk => hk.1))
                  · rw [seg_set_other (by omega) e, seg_set_other (by omega) e, seg_set_other (by omega) e]
                    exact k92.M_mono (fun k hk => hk.1) (D8.out j x' (by omega) hx')
                · rw [seg_set_other (by omega) (by omega), seg_set_other (by omega) (by omega), seg_set_other (by omega) (by omega)]
                  exact REST.out j x' (by omega) hx'
          · obtain ⟨gp, capp, curp, hvp, hgp, hrowp, htkp⟩ := rowAt_of_own VP.out (by intro e; injection e with _ e2 _; exact hm0 e2)
            injection hvp with e1 _ e3
            subst e1
            subst e3
            have hgne : g ≠ gp := by omega
            have ROWP8 : Aside0 (RowAt W8 gp 102 2 x.f3.length cvp curp) := ⟨hrowp.kept (hF8 gp (Ne.symm hgne))⟩
            have RESTP8 : Aside0 (∀ q p, x.f3[q]? = some p → k102.K w p (seg 2 curp q)) := ⟨by
              intro j p hp
              have hj : j < x.f3.length := (List.getElem?_eq_some_iff.1 hp).1
              have := RP.out.2 j p hp
              rw [← htkp] at this
              have hs : ((curp.take (x.f3.length * 2)).drop (j * 2)).take 2 = seg 2 curp j := by
                unfold seg
                rw [List.drop_take, List.take_take, Nat.min_eq_left (by omega)]
              rw [hs] at this
              exact this⟩
            have qg : (((cur.set (kk * 5 + 1) (.slice Av1 x.f1.length cv1)).set (kk * 5 + 4) (.slice Av4 x.f4.length cv4)).set (kk * 5 + 3) (.slice (some ⟨gp, 0, none⟩) x.f3.length cvp))[kk * 5 + 3]? = some (.slice (some ⟨gp, 0, none⟩) x.f3.length cvp) := by simp [List.getElem?_set]; omega
            have HF8 := Aside0.mk hF8
            clear hrowp htkp VP RP hF8 qp
            go_loopg [5, 45] x.f3.length (fun gg2 _ s45 wi => ∃ (k2 : Nat) (curp : List Value), k2 ≤ x.f3.length ∧ x.f3.length - k2 ≤ gg2 ∧ s45 = .int .i64 k2 ∧ Aside0 (RowAt wi gp 102 2 x.f3.length cvp curp) ∧ Aside0 (∀ q p, q < k2 → x.f3[q]? = some p → k102.M wi w.heap.size (fun k => k ≠ g ∧ k ≠ gp) p (seg 2 curp q)) ∧ Aside0 (∀ q p, k2 ≤ q → x.f3[q]? = some p → k102.K w p (seg 2 curp q)) ∧ Aside0 (∀ k, k < W8.heap.size → k ≠ gp → wi.heap[k]? = W8.heap[k]?) ∧ Aside0 (W8.heap.size ≤ wi.heap.size) ∧ Aside0 (Below w.heap.size w wi))
            case atStart => exact ⟨0, curp, Nat.zero_le _, by omega, rfl, ROWP8, ⟨fun j p hj => absurd hj (Nat.not_lt_zero _)⟩, ⟨fun j p _ hx => RESTP8.out j p hx⟩, ⟨fun _ _ _ => rfl⟩, ⟨Nat.le_refl _⟩, BW8⟩
            case round =>
              obtain ⟨k2, curp, hk2, hgg2, rfl, ROWP, DONEP, RESTP, KEEP, SIZ, BWI⟩ := hrel
              by_cases hlt2 : k2 < x.f3.length
              · have hlt2z : (k2 : Int) < (x.f3.length : Int) := by omega
                have hk20 : (0 : Int) ≤ (k2 : Int) := by omega
                obtain ⟨p, hp⟩ : ∃ p, x.f3[k2]? = some p := ⟨_, List.getElem?_eq_getElem hlt2⟩
                have hpf := List.all_eq_true.1 fitp.out p (List.mem_of_getElem? hp)
                unfold propFits at hpf
                simp only [decide_eq_true_eq] at hpf
                obtain ⟨Ad, cd, hsegp, ld, gd⟩ := k102_open (RESTP.out k2 p (Nat.le_refl _) hp)
                have qd : curp[k2 * 2 + 1]? = some (.slice Ad p.f1.length cd) := by rw [← seg_get (sz := 2) (by omega), hsegp]; rfl
                have fitd : Aside0 (slices_Clone_byte_byte.f p.f1 = some p.f1) := ⟨if_pos hpf⟩
                have HSEGP := Aside0.mk hsegp
                have HP := Aside0.mk hp
                have RG := Aside0.mk (ROW8.out.kept (KEEP.out g (blk_lt ROW8.out.1) hgne))
                replace ld := Aside0.mk ld
                replace gd := Aside0.mk gd
                have p0 := eq_true hk20
                have p1 := eq_true hlt2z
                clear hsegp hp hpf
                go_wp2
                refine start_ (n := 17) (S := fun w' => w'.cell? ⟨g, kk * 5 + 3, none⟩ = some (.slice (some ⟨gp, 0, none⟩) x.f3.length cvp) ∧ w'.cell? ⟨gp, k2 * 2 + 1, none⟩ = some (.slice Ad p.f1.length cd)) (ds := [16]) #[false, false, false, false, false, false, false, false, false, false, false, false, false, false, false, false, false] (by kernel_rfl) rfl rfl ⟨RG.out.cell qg, ROWP.out.cell qd⟩ (fun hHeld => ?_)
                obtain ⟨WI2, hWI2⟩ : ∃ WI2, wr.drew = WI2 := ⟨_, rfl⟩
                have RG2 : Aside0 (RowAt WI2 g 92 5 l0.length c (((cur.set (kk * 5 + 1) (.slice Av1 x.f1.length cv1)).set (kk * 5 + 4) (.slice Av4 x.f4.length cv4)).set (kk * 5 + 3) (.slice (some ⟨gp, 0, none⟩) x.f3.length cvp))) := ⟨by rw [← hWI2]; exact RG.out⟩
                have RP2 : Aside0 (RowAt WI2 gp 102 2 x.f3.length cvp curp) := ⟨by rw [← hWI2]; exact ROWP.out⟩
                have BI2 : Aside0 (Below w.heap.size w WI2) := ⟨by rw [← hWI2]; exact below_drew BWI.out⟩
                have KP2 : Aside0 (∀ k, k < W8.heap.size → k ≠ gp → WI2.heap[k]? = W8.heap[k]?) := ⟨by rw [← hWI2]; exact fun k h1 h2 => KEEP.out k h1 h2⟩
                have DP2 : Aside0 (∀ q p, q < k2 → x.f3[q]? = some p → k102.M WI2 w.heap.size (fun k => k ≠ g ∧ k ≠ gp) p (seg 2 curp q)) := ⟨by rw [← hWI2]; exact fun q p h1 h2 => DONEP.out q p h1 h2⟩
                have zi2 : W8.heap.size ≤ WI2.heap.size := by rw [← hWI2]; exact SIZ.out
                rw [hWI2] at hHeld ⊢
                clear hWI2 RG ROWP BWI KEEP DONEP SIZ
                refine pure_ (i := 0) (N := some 48) (v := ?_) (a' := ?_) #[true, false, false, false, false, false, false, false, false, false, false, false, false, false, false, false, false] rfl rfl (by kernel_rfl) (fun _ _ _ h => h) (Or.inl ⟨by rfl, ?_⟩) ?_ ?_
                rotate_left
                · intro w'
                  go_simp
                  with_reducible rfl
                rotate_left
                · simp only [Act.put, List.setIfInBounds_toArray, List.set_cons_zero, List.set_cons_succ]
                  rfl
                refine pure_ (i := 1) (N := some 49) (v := ?_) (a' := ?_) #[true, true, false, false, false, false, false, false, false, false, false, false, false, false, false, false, false] rfl rfl (by kernel_rfl) (fun _ _ _ h => h) (Or.inl ⟨by rfl, ?_⟩) ?_ ?_
                rotate_left
                · intro w'
                  go_simp
                  with_reducible rfl
                rotate_left
                · simp only [Act.put, List.setIfInBounds_toArray, List.set_cons_zero, List.set_cons_succ]
                  rfl
                refine pure_ (i := 2) (N := some 50) (v := ?_) (a' := ?_) #[true, true, true, false, false, false, false, false, false, false, false, false, false, false, false, false, false] rfl rfl (by kernel_rfl) (fun _ _ _ h => h) (Or.inl ⟨by rfl, ?_⟩) ?_ ?_
                rotate_left
                · intro w'
                  go_simp
                  with_reducible rfl
                rotate_left
                · simp only [Act.put, List.setIfInBounds_toArray, List.set_cons_zero, List.set_cons_succ]
                  rfl
                refine take_ (i := 3) (N := some 51) (v := ?_) (a' := ?_) #[true, true, true, true, false, false, false, false, false, false, false, false, false, false, false, false, false] rfl rfl (by kernel_rfl) (fun _ _ _ h => h) (Or.inl ⟨by rfl, ?_⟩) hHeld ?_ ?_
                rotate_left
                · rintro w' ⟨s0, s1⟩
                  go_simp
                  with_reducible rfl
                rotate_left
                · simp only [Act.put, List.setIfInBounds_toArray, List.set_cons_zero, List.set_cons_succ]
                  rfl
                refine pure_ (i := 4) (N := some 52) (v := ?_) (a' := ?_) #[true, true, true, true, true, false, false, false, false, false, false, false, false, false, false, false, false] rfl rfl (by kernel_rfl) (fun _ _ _ h => h) (Or.inl ⟨by rfl, ?_⟩) ?_ ?_
                rotate_left
                · intro w'
                  go_simp
                  with_reducible rfl
                rotate_left
                · simp only [Act.put, List.setIfInBounds_toArray, List.set_cons_zero, List.set_cons_succ]
                  rfl
                refine pure_ (i := 5) (N := some 53) (v := ?_) (a' := ?_) #[true, true, true, true, true, true, false, false, false, false, false, false, false, false, false, false, false] rfl rfl (by kernel_rfl) (fun _ _ _ h => h) (Or.inl ⟨by rfl, ?_⟩) ?_ ?_
                rotate_left
                · intro w'
                  go_simp
                  with_reducible rfl
                rotate_left
                · simp only [Act.put, List.setIfInBounds_toArray, List.set_cons_zero, List.set_cons_succ]
                  rfl
                refine pure_ (i := 6) (N := some 54) (v := ?_) (a' := ?_) #[true, true, true, true, true, true, true, false, false, false, false, false, false, false, false, false, false] rfl rfl (by kernel_rfl) (fun _ _ _ h => h) (Or.inl ⟨by rfl, ?_⟩) ?_ ?_
                rotate_left
                · intro w'
                  go_simp
                  with_reducible rfl
                rotate_left
                · simp only [Act.put, List.setIfInBounds_toArray, List.set_cons_zero, List.set_cons_succ]
                  rfl
                refine pure_ (i := 7) (N := some 55) (v := ?_) (a' := ?_) #[true, true, true, true, true, true, true, true, false, false, false, false, false, false, false, false, false] rfl rfl (by kernel_rfl) (fun _ _ _ h => h) (Or.inl ⟨by rfl, ?_⟩) ?_ ?_
                rotate_left
                · intro w'
                  go_simp
                  with_reducible rfl
                rotate_left
                · simp only [Act.put, List.setIfInBounds_toArray, List.set_cons_zero, List.set_cons_succ]
                  rfl
                refine take_ (i := 8) (N := some 56) (v := ?_) (a' := ?_) #[true, true, true, true, true, true, true, true, true, false, false, false, false, false, false, false, false] rfl rfl (by kernel_rfl) (fun _ _ _ h => h) (Or.inl ⟨by rfl, ?_⟩) hHeld ?_ ?_
                rotate_left
                · rintro w' ⟨s0, s1⟩
                  go_simp
                  with_reducible rfl
                rotate_left
                · simp only [Act.put, List.setIfInBounds_toArray, List.set_cons_zero, List.set_cons_succ]
                  rfl
                refine pure_ (i := 9) (N := some 57) (v := ?_) (a' := ?_) #[true, true, true, true, true, true, true, true, true, true, false, false, false, false, false, false, false] rfl rfl (by kernel_rfl) (fun _ _ _ h => h) (Or.inl ⟨by rfl, ?_⟩) ?_ ?_
                rotate_left
                · intro w'
                  go_simp
                  with_reducible rfl
                rotate_left
                · simp only [Act.put, List.setIfInBounds_toArray, List.set_cons_zero, List.set_cons_succ]
                  rfl
                refine pure_ (i := 10) (N := some 58) (v := ?_) (a' := ?_) #[true, true, true, true, true, true, true, true, true, true, true, false, false, false, false, false, false] rfl rfl (by kernel_rfl) (fun _ _ _ h => h) (Or.inl ⟨by rfl, ?_⟩) ?_ ?_
                rotate_left
                · intro w'
                  go_simp
                  with_reducible rfl
                rotate_left
                · simp only [Act.put, List.setIfInBounds_toArray, List.set_cons_zero, List.set_cons_succ]
                  rfl
                refine pure_ (i := 11) (N := some 59) (v := ?_) (a' := ?_) #[true, true, true, true, true, true, true, true, true, true, true, true, false, false, false, false, false] rfl rfl (by kernel_rfl) (fun _ _ _ h => h) (Or.inl ⟨by rfl, ?_⟩) ?_ ?_
                rotate_left
                · intro w'
                  go_simp
                  with_reducible rfl
                rotate_left
                · simp only [Act.put, List.setIfInBounds_toArray, List.set_cons_zero, List.set_cons_succ]
                  rfl
                refine take_ (i := 12) (N := some 60) (v := ?_) (a' := ?_) #[true, true, true, true, true, true, true, true, true, true, true, true, true, false, false, false, false] rfl rfl (by kernel_rfl) (fun _ _ _ h => h) (Or.inl ⟨by rfl, ?_⟩) hHeld ?_ ?_
                rotate_left
                · rintro w' ⟨s0, s1⟩
                  go_simp
                  with_reducible rfl
                rotate_left
                · simp only [Act.put, List.setIfInBounds_toArray, List.set_cons_zero, List.set_cons_succ]
                  rfl
                refine one_ (i := 13) (N := some 61) #[true, true, true, true, true, true, true, true, true, true, true, true, true, true, false, false, false] rfl rfl (by kernel_rfl) (by decide) (fun K hK => ?_)
                refine goes_ Try.func49 (by kernel_rfl) rfl #[.slice Ad p.f1.length cd] (by rfl) rfl rfl (by (try simp only [List.map_toArray, List.map_cons, List.map_nil]); rfl) ?_
                refine (slices_Clone_byte_byte.calls Ad cd p.f1 p.f1 _ (Kd.C_below gd.out BI2.out) ld.out fitd.out).mono ?_
                rintro e W9 ⟨vd, rfl, ho, hb⟩
                refine ⟨_, rfl, ?_⟩
                have VD := Aside0.mk ho
                have RG9 := Aside0.mk (RG2.out.kept (hb.block _ (blk_lt RG2.out.1)))
                have RP9 := Aside0.mk (RP2.out.kept (hb.block _ (blk_lt RP2.out.1)))
                have BI9 := Aside0.mk (below_then BI2.out BI2.out.size hb)
                have ZI9 := Aside0.mk hb
                clear ho hb
                refine hK.out _ _ ⟨RG9.out.cell qg, RP9.out.cell qd⟩ (fun hHeld => ?_)
                clear hK K
                refine norm_ (a' := ?_) ?_ ?_
                rotate_left
                · show Act.put _ (some 61) _ = _
                  simp only [Act.put, List.setIfInBounds_toArray, List.set_cons_zero, List.set_cons_succ]
                  rfl
                refine pure_ (i := 14) (N := some 62) (v := ?_) (a' := ?_) #[true, true, true, true, true, true, true, true, true, true, true, true, true, true, true, false, false] rfl rfl (by kernel_rfl) (fun _ _ _ h => h) (Or.inl ⟨by rfl, ?_⟩) ?_ ?_
                rotate_left
                · intro w'
                  go_simp
                  with_reducible rfl
                rotate_left
                · simp only [Act.put, List.setIfInBounds_toArray, List.set_cons_zero, List.set_cons_succ]
                  rfl
                refine pure_ (i := 15) (N := some 63) (v := ?_) (a' := ?_) #[true, true, true, true, true, true, true, true, true, true, true, true, true, true, true, true, false] rfl rfl (by kernel_rfl) (fun _ _ _ h => h) (Or.inl ⟨by rfl, ?_⟩) ?_ ?_
                rotate_left
                · intro w'
                  go_simp
                  with_reducible rfl
                rotate_left
                · simp only [Act.put, List.setIfInBounds_toArray, List.set_cons_zero, List.set_cons_succ]
                  rfl
                obtain ⟨Avd, cvd, evd⟩ := Kd.R_slice VD.out
                subst evd
                refine last_ (i := 16) (N := none) #[true, true, true, true, true, true, true, true, true, true, true, true, true, true, true, true, true] rfl rfl (by kernel_rfl) (by decide) (fun K hK => ?_)
                have hs := RP9.out.cell qd
                have hf := RP9.out.frozen (k2 * 2 + 1)
                refine skip_ (w1 := ?_) (by rfl) rfl ?_ ?_
                rotate_left
                · go_simp
                  rfl
                refine hK.out _ _ ?_
                clear hK K
                refine done_ (by kernel_rfl) ?_
                obtain ⟨WX, hWX⟩ : ∃ WX, W9.setCell ⟨gp, k2 * 2 + 1, none⟩ (.slice Avd p.f1.length cvd) = WX := ⟨_, rfl⟩
                have RPX : Aside0 (RowAt WX gp 102 2 x.f3.length cvp (curp.set (k2 * 2 + 1) (.slice Avd p.f1.length cvd))) := ⟨by rw [← hWX]; exact RP9.out.set _ _⟩
                have fX : ∀ k, k ≠ gp → WX.heap[k]? = W9.heap[k]? := fun k hk => by rw [← hWX]; exact Below.heap_setCell _ _ _ _ hk
                have zX : WX.heap.size = W9.heap.size := by rw [← hWX]; simp
                have BX : Aside0 (Below w.heap.size w WX) := ⟨by rw [← hWX]; exact BI9.out.setCell (p := ⟨gp, k2 * 2 + 1, none⟩) (by show w.heap.size ≤ gp; omega) _⟩
                have hgp2 : gp < WI2.heap.size := blk_lt RP2.out.1
                have hgg3 : g < WI2.heap.size := blk_lt RG2.out.1
                have zi9 : WI2.heap.size ≤ W9.heap.size := ZI9.out.size
                have hbi2 : w.heap.size ≤ WI2.heap.size := BI2.out.size
                rw [hWX]
                clear hWX
                have DX : Aside0 (∀ q p', q < k2 + 1 → x.f3[q]? = some p' → k102.M WX w.heap.size (fun k => k ≠ g ∧ k ≠ gp) p' (seg 2 (curp.set (k2 * 2 + 1) (.slice Avd p.f1.length cvd)) q)) := ⟨by
                  intro q p' hq hp'
                  by_cases e : q = k2
                  · subst e
                    have hpp : p' = p := by have h1 := HP.out; rw [h1] at hp'; exact (Option.some.inj hp').symm
                    subst hpp
                    rw [seg_set_same (by omega), HSEGP.out]
                    exact k102_mkM _ _ _ p' (Kd.R_mono (Kd.R_step (Kd.R_lower (Kd.R_bound VD.out) hbi2) (fun k hk _ => fX k (by have := hk.2.1; omega))) (fun k hk => ⟨by have := hk.2.1; omega, by have := hk.2.1; omega⟩))
                  · rw [seg_set_other (by omega) e]
                    exact k102.M_mono (fun k hk => hk.1) (Kd.M_step (k102.M_bound (DP2.out q p' (by omega) hp')) (fun k hk _ => (fX k hk.1.2).trans (ZI9.out.block k hk.2.2.1)))⟩
                go_wp2
                have hm3 := fit3.out
                go_roundg (x.f3.length - (k2 + 1))
                case measure => omega
                case rel => exact ⟨k2 + 1, _, by omega, by omega, (by have hw : wrap64 ((k2 : Int) + 1) = ((k2 + 1 : Nat) : Int) := (by unfold wrap64; omega); first | rw [hw] | (simp only [hw]) | go_num), RPX, DX, ⟨fun q p' hq hp' => by rw [seg_set_other (by omega) (by omega)]; exact RESTP.out q p' (by omega) hp'⟩, ⟨fun k h1 h2 => (fX k h2).trans ((ZI9.out.block k (by omega)).trans (KP2.out k h1 h2))⟩, ⟨by omega⟩, BX⟩
              · have hlt2z : ¬ (k2 : Int) < (x.f3.length : Int) := by omega
                have hm3 := fit3.out
                obtain rfl : k2 = x.f3.length := by omega
                have RGX : Aside0 (RowAt wr g 92 5 l0.length c (((cur.set (kk * 5 + 1) (.slice Av1 x.f1.length cv1)).set (kk * 5 + 4) (.slice Av4 x.f4.length cv4)).set (kk * 5 + 3) (.slice (some ⟨gp, 0, none⟩) x.f3.length cvp))) := ⟨ROW8.out.kept (KEEP.out g (blk_lt ROW8.out.1) hgne)⟩
                have hmv : ∀ k, k < W4.heap.size → k < W8.heap.size → wr.heap[k]? = W8.heap[k]? := fun k h1 h2 => KEEP.out k h2 (by omega)
                have RPR : Kd.R k102 102 wr w.heap.size (fun k => k ≠ g) (.slice (some ⟨gp, 0, none⟩) x.f3.length cvp) x.f3 := by
                  refine ⟨fun k hk => ?_, _, ROWP.out.own (by omega), ?_, fun q p hp => ?_⟩
                  · simp [Value.ownBlock] at hk; omega
                  · have h4 := ROWP.out.2.2.2
                    have h2 := ROWP.out.2.1
                    rw [List.length_take, h4]
                    exact Nat.min_eq_left (Nat.mul_le_mul_right _ h2)
                  · have hq : q < x.f3.length := (List.getElem?_eq_some_iff.1 hp).1
                    have hs : ((curp.take (x.f3.length * 2)).drop (q * 2)).take 2 = seg 2 curp q := by
                      unfold seg
                      rw [List.drop_take, List.take_take, Nat.min_eq_left (by omega)]
                    show k102.M _ _ _ p (((curp.take (x.f3.length * 2)).drop (q * 2)).take 2)
                    rw [hs]
                    exact k102.M_mono (fun k hk => ⟨hk.1, by simp [Value.ownBlock]; exact hk.2⟩) (DONEP.out q p hq hp)
                go_wp2
                go_roundg (l0.length - (kk + 1))
                case measure => omega
                case rel =>
                  refine ⟨kk + 1, _, by omega, by omega, by go_num, RGX, ⟨fun j x' hj hx' => ?_⟩, ⟨fun j x' hj hx' => ?_⟩, BWI⟩
                  · by_cases e : j = kk
                    · subst e
                      have hxx : x' = x := by have h1 := HX.out; rw [h1] at hx'; exact (Option.some.inj hx').symm
                      subst hxx
                      rw [seg_set_same (by omega), seg_set_same (by omega), seg_set_same (by omega), HSEG.out]
                      exact k92_mkM _ _ _ x' (Kd.R_mono (Kd.R_step (Kd.R_bound V18.out) (fun k hk _ => hmv k hk.1.2 hk.2.2.1)) (fun k hk => hk.1.1)) RPR (Kd.R_mono (Kd.R_step (Kd.R_bound V48.out) (fun k hk _ => hmv k hk.1.2 hk.2.2.1)) (fun k hk => hk.1.1))
                    · rw [seg_set_other (by omega) e, seg_set_other (by omega) e, seg_set_other (by omega) e]
                      exact k92.M_mono (fun k hk => hk.1.1) (Kd.M_step (k92.M_bound (D8.out j x' (by omega) hx')) (fun k hk _ => hmv k hk.1.2 hk.2.2.1))
                  · rw [seg_set_other (by omega) (by omega), seg_set_other (by omega) (by omega), seg_set_other (by omega) (by omega)]
                    exact REST.out j x' (by omega) hx'
        · have hltz : ¬ (kk : Int) < (l0.length : Int) := by omega
          obtain rfl : kk = l0.length := by omega
          have hRR : Kd.R k92 92 wr w.heap.size (fun _ => True) (.slice (some ⟨g, 0, none⟩) l0.length c) l0 := by
            refine ⟨fun _ _ => trivial, _, ROW.out.own hg, ?_, fun q p hp => ?_⟩
            · have h4 := ROW.out.2.2.2
              have h2 := ROW.out.2.1
              rw [List.length_take, h4]
              exact Nat.min_eq_left (Nat.mul_le_mul_right _ h2)
            · have hq : q < l0.length := (List.getElem?_eq_some_iff.1 hp).1
              have hs : ((cur.take (l0.length * 5)).drop (q * 5)).take 5 = seg 5 cur q := by
                unfold seg
                rw [List.drop_take, List.take_take, Nat.min_eq_left (by omega)]
              show k92.M _ _ _ p (((cur.take (l0.length * 5)).drop (q * 5)).take 5)
              rw [hs]
              exact k92.M_mono (fun k hk => ⟨trivial, by simp [Value.ownBlock]; exact hk⟩) (DONE.out q p hq hp)
          go_wp2
          go_ret
          exact ⟨_, rfl, hRR, BW.out⟩
  · rw [if_neg hfit] at h
    cases h
end Go.Proofs.Ytpalbpakeokimaa.PK
