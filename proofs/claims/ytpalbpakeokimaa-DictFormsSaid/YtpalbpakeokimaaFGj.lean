/- tinder: a part of the proof, joined and pruned by wip/tools/prune.py out of: Gj -/
import Derived.Test.YtpalbpakeokimaaFGc
import Derived.Test.YtpalbpakeokimaaFGi
namespace Go.Proofs.Ytpalbpakeokimaa.PK
set_option linter.unusedVariables false
set_option linter.unusedSimpArgs false
open Go.RowKit Go.Proofs.YtpalbpakeokimaaW.PrintWords Go.Proofs.YtpalbpakeokimaaW.PrintLast Go.Proofs.YtpalbpakeokimaaW.PrintMore
open Go.Shelf
theorem cell_at_new {W : World} {cs : Array Value} {t B j : Nat} {v : Value} (hB : B = W.heap.size) (h : cs[j]? = some v) : (W.alloc (.cells cs t)).cell? ⟨B, j, none⟩ = some v := by
  subst hB
  simp [h]
theorem box5 {W W' : World} {v0 v1 v2 v3 v4 : Value} {t : Nat} (hb : Below (W.alloc (.cells #[v0, v1, v2, v3, v4] t)).heap.size (W.alloc (.cells #[v0, v1, v2, v3, v4] t)) W') :
    W'.cell? ⟨W.heap.size, 0, none⟩ = some v0 ∧ W'.cell? ⟨W.heap.size, 1, none⟩ = some v1 ∧ W'.cell? ⟨W.heap.size, 2, none⟩ = some v2 ∧ W'.cell? ⟨W.heap.size, 3, none⟩ = some v3 ∧ W'.cell? ⟨W.heap.size, 4, none⟩ = some v4 :=
  ⟨pw_cell_below hb (cell_at_new rfl rfl), pw_cell_below hb (cell_at_new rfl rfl), pw_cell_below hb (cell_at_new rfl rfl), pw_cell_below hb (cell_at_new rfl rfl), pw_cell_below hb (cell_at_new rfl rfl)⟩
theorem is68' (p : Int) (s : ByteArray) (A : Option Addr) (n c : Nat) (w : World) : Calls Try.prog 68 #[.int .i64 p, .string s, .slice A n c] w fun e w' =>
    ∃ B, e = .returned (.func (.func 90) #[] #[.pointer (some ⟨B, 0, none⟩), .pointer (some ⟨B + 1, 0, none⟩), .pointer (some ⟨B + 2, 0, none⟩)]) ∧
    w'.cell? ⟨B, 0, none⟩ = some (.int .i64 p) ∧ w'.cell? ⟨B + 1, 0, none⟩ = some (.string s) ∧ w'.cell? ⟨B + 2, 0, none⟩ = some (.slice A n c) ∧ Below w.heap.size w w' := by
  refine (is68 p s A n c w).mono ?_
  rintro e w' ⟨rfl, rfl⟩
  refine ⟨_, rfl, ?_, ?_, ?_, below_alloc (below_alloc (below_alloc (Below.refl _ _) _) _) _⟩
  · exact pw_cell_below (below_alloc (below_alloc (Below.refl _ _) _) _) (cell_at_new rfl rfl)
  · exact pw_cell_below (below_alloc (Below.refl _ _) _) (cell_at_new (by simp) rfl)
  · exact cell_at_new (by simp) rfl
def nodeX (pre : List S92) (i : Nat) (x : S92) : Bool :=
  decide (x.f4.length ≤ 16) && (propsB x.f3 &&
  (if i = 0 then x.f0.toList.isEmpty && (decide (x.f1.length = 0) && decide (x.f2 = -1))
   else propNamedB x.f0 && (decide (x.f1.length ≤ 4) && (decide (0 ≤ x.f2) && (decide (x.f2 < (i : Int)) && !(pre.any (isB x.f2 x.f0 x.f1)))))))
def nodeOK (l : List S92) (i : Nat) : Bool := nodeX (l.take i) i (l.getD i z92)
def treeB (l : List S92) : Bool := decide (1 ≤ l.length) && decide (l.length ≤ 32) && (List.range l.length).all (nodeOK l)
def tree_Formed.f (l0 : List (S92)) : Option (Bool) := some (treeB l0)
set_option maxHeartbeats 8000000 in
set_option maxRecDepth 100000 in
theorem tree_Formed.calls (A0 : Option Addr) (c0 : Nat) (l0 : List (S92)) (r : Bool) (w : World) (hr0 : Kd.C k92 w A0 l0.length l0) (hc0 : l0.length ≤ c0) (h : tree_Formed.f l0 = some r) :
    Calls Try.prog 37 #[.slice A0 l0.length c0] w fun e w' => e = .returned (.bool r) ∧ Below w.heap.size w w' := by
  obtain rfl := Option.some.inj h
  have HR0 := Aside0.mk hr0
  have HC0 := Aside0.mk hc0
  clear hr0 hc0 h
  by_cases h1 : l0.length = 0
  · have d1 : ((l0.length : Int) == 0) = true := by simpa using h1
    have E1 : treeB l0 = false := by unfold treeB; rw [decide_eq_false (by omega)]; rfl
    rw [E1]
    clear h1 E1
    go_enter Try.func37, Try.ntmps37
    go_wp2
    go_ret
    exact ⟨rfl, Below.refl _ _⟩
  have d1 : ((l0.length : Int) == 0) = false := by simpa using h1
  by_cases h32 : l0.length ≤ 32
  · have d32 : decide (32 < (l0.length : Int)) = false := decide_eq_false (by omega)
    have E1 := Aside0.mk (show treeB l0 = (List.range l0.length).all (nodeOK l0) by unfold treeB; rw [decide_eq_true h32, decide_eq_true (by omega)]; rfl)
    clear h1
    have hu92 := Try.underlying92
    go_enter Try.func37, Try.ntmps37
    go_wp2
    go_loopg [15] l0.length (fun gg s15 wr => ∃ kk : Nat, kk ≤ l0.length ∧ l0.length - kk ≤ gg ∧ s15 = .int .i64 kk ∧ Aside0 (Below w.heap.size w wr) ∧ Aside0 (∀ j, j < kk → nodeOK l0 j = true))
    case atStart => exact ⟨0, Nat.zero_le _, by omega, rfl, ⟨Below.refl _ w⟩, ⟨fun j hj => absurd hj (Nat.not_lt_zero _)⟩⟩
    case round =>
      obtain ⟨kk, hkk, hg, rfl, BW, A⟩ := hrel
      by_cases hlt : kk < l0.length
      · have hltz : (kk : Int) < (l0.length : Int) := by omega
        obtain ⟨ad, A1, c1, A3, c3, A4, c4, e1, h0, h1, h2, h3, h4, hl1, hi1, hl3, hi3, hl4, hi4⟩ := at_T92 (Kd.C_below HR0.out BW.out) (kk : Int) (by omega) hltz
        simp only [Int.toNat_natCast] at h0 h1 h2 h3 h4
        have hy : l0.getD kk z92 = rd_T92 l0 kk := by simp [rd_T92]
        have HN := Aside0.mk (show nodeOK l0 kk = nodeX (l0.take kk) kk (rd_T92 l0 kk) by unfold nodeOK; rw [hy])
        cases e1
        clear hy
        generalize rd_T92 l0 kk = y at *
        obtain ⟨nm, u, par, pr, ce⟩ := y
        simp only at *
        have hp : ∀ W, Below wr.heap.size wr W → Calls Try.prog 65 #[.slice A3 pr.length c3] W fun e w' => e = .returned (.bool (propsB pr)) ∧ Below W.heap.size W w' := fun W hb => tree_propsFormed.calls A3 c3 pr _ W (Kd.C_below hi3 hb) hl3 rfl
        have HU := Aside0.mk hi1
        have HLU := Aside0.mk hl1
        clear hi1 hi3 hi4 hl1 hl3 hl4
        have hnm : ∀ (W : World), Calls Try.prog 66 #[.string nm] W fun e w' => e = .returned (.bool (propNamedB nm)) ∧ ∃ m, w' = W.drewN m := fun W => (prop_Named_any nm W).mono fun e w' ⟨he, hw⟩ => ⟨he, hw.out⟩
        by_cases hce : ce.length ≤ 16
        · have dce : decide (16 < (ce.length : Int)) = false := decide_eq_false (by omega)
          cases hpb : propsB pr with
          | false =>
            rw [hpb] at hp
            have HP := Aside0.mk hp
            have HPB := Aside0.mk hpb
            clear hp hpb hnm
            go_wp2_with (go_at_call 65; refine (HP.out _ (by repeat (first | exact Below.refl _ _ | apply below_alloc))).mono ?_; rintro e w1 ⟨rfl, hb1⟩; obtain ⟨q0, q1, q2, q3, q4⟩ := box5 hb1; have hz1 := hb1.size; simp only [World.size_alloc] at hz1; have HB1 := Aside0.mk hb1; clear hb1)
            go_ret
            refine ⟨by rw [E1.out, all_stop hlt (by rw [HN.out]; simp [nodeX, hce, HPB.out])]; rfl, below_go (below_alloc BW.out _) HB1.out⟩
          | true =>
            rw [hpb] at hp
            have HP := Aside0.mk hp
            have HPB := Aside0.mk hpb
            clear hp hpb
            by_cases hk0 : kk = 0
            · have dk0 : ((kk : Int) == 0) = true := by simpa using hk0
              have HK0 := Aside0.mk hk0
              clear hk0 hnm
              by_cases hn0 : nm.toList = []
              · have dn0 : nm.toList.isEmpty = true := by rw [hn0]; rfl
                clear hn0
                by_cases hu0 : u.length = 0
                · have du0 : ((u.length : Int) != 0) = false := by rw [bne_eq_false_iff_eq]; omega
                  have HU0 := Aside0.mk hu0
                  clear hu0
                  by_cases hp0 : par = -1
                  · have dp0 : (par != -1) = false := by rw [bne_eq_false_iff_eq]; exact hp0
                    have HP0 := Aside0.mk hp0
                    clear hp0
                    go_wp2_with (go_at_call 65; refine (HP.out _ (by repeat (first | exact Below.refl _ _ | apply below_alloc))).mono ?_; rintro e w1 ⟨rfl, hb1⟩; obtain ⟨q0, q1, q2, q3, q4⟩ := box5 hb1; have hz1 := hb1.size; simp only [World.size_alloc] at hz1; have HB1 := Aside0.mk hb1; clear hb1)
                    go_roundg (l0.length - (kk + 1))
                    case measure => omega
                    case rel =>
                      refine ⟨kk + 1, by omega, by omega, by go_num, ⟨below_go (below_alloc BW.out _) HB1.out⟩, ⟨fun j hj => ?_⟩⟩
                      by_cases e : j = kk
                      · subst e
                        rw [HN.out]; simp [nodeX, hce, HPB.out, HK0.out, dn0, HU0.out, HP0.out]
                      · exact A.out j (by omega)
                  · have dp0 : (par != -1) = true := by rw [bne_iff_ne]; exact hp0
                    go_wp2_with (go_at_call 65; refine (HP.out _ (by repeat (first | exact Below.refl _ _ | apply below_alloc))).mono ?_; rintro e w1 ⟨rfl, hb1⟩; obtain ⟨q0, q1, q2, q3, q4⟩ := box5 hb1; have hz1 := hb1.size; simp only [World.size_alloc] at hz1; have HB1 := Aside0.mk hb1; clear hb1)
                    go_ret
                    refine ⟨by rw [E1.out, all_stop hlt (by rw [HN.out]; simp [nodeX, HK0.out, hp0])]; rfl, below_go (below_alloc BW.out _) HB1.out⟩
                · have du0 : ((u.length : Int) != 0) = true := by rw [bne_iff_ne]; omega
                  have HU0 := Aside0.mk hu0
                  clear hu0
                  go_wp2_with (go_at_call 65; refine (HP.out _ (by repeat (first | exact Below.refl _ _ | apply below_alloc))).mono ?_; rintro e w1 ⟨rfl, hb1⟩; obtain ⟨q0, q1, q2, q3, q4⟩ := box5 hb1; have hz1 := hb1.size; simp only [World.size_alloc] at hz1; have HB1 := Aside0.mk hb1; clear hb1)
                  go_ret
                  refine ⟨by rw [E1.out, all_stop hlt (by rw [HN.out]; simp [nodeX, HK0.out, HU0.out])]; rfl, below_go (below_alloc BW.out _) HB1.out⟩
              · have dn0 : nm.toList.isEmpty = false := by simpa [List.isEmpty_iff] using hn0
                clear hn0
                go_wp2_with (go_at_call 65; refine (HP.out _ (by repeat (first | exact Below.refl _ _ | apply below_alloc))).mono ?_; rintro e w1 ⟨rfl, hb1⟩; obtain ⟨q0, q1, q2, q3, q4⟩ := box5 hb1; have hz1 := hb1.size; simp only [World.size_alloc] at hz1; have HB1 := Aside0.mk hb1; clear hb1)
                go_ret
                refine ⟨by rw [E1.out, all_stop hlt (by rw [HN.out]; simp [nodeX, HK0.out, dn0])]; rfl, below_go (below_alloc BW.out _) HB1.out⟩
            · have dk0 : ((kk : Int) == 0) = false := by simpa using hk0
              have HK0 := Aside0.mk hk0
              clear hk0
              cases hnb : propNamedB nm with
              | false =>
                rw [hnb] at hnm
                have HNB := Aside0.mk hnb
                clear hnb
                go_wp2_with (first | (go_at_call 65; refine (HP.out _ (by repeat (first | exact Below.refl _ _ | apply below_alloc))).mono ?_; rintro e w1 ⟨rfl, hb1⟩; obtain ⟨q0, q1, q2, q3, q4⟩ := box5 hb1; have hz1 := hb1.size; simp only [World.size_alloc] at hz1; have HB1 := Aside0.mk hb1; clear hb1) | (go_at_call 66; refine (hnm _).mono ?_; rintro e w' ⟨rfl, m, rfl⟩))
                go_ret
                refine ⟨by rw [E1.out, all_stop hlt (by rw [HN.out]; simp [nodeX, HK0.out, HNB.out])]; rfl, pw_below_drewN (below_go (below_alloc BW.out _) HB1.out) _⟩
              | true =>
                rw [hnb] at hnm
                have HNB := Aside0.mk hnb
                clear hnb
                by_cases hu4 : u.length ≤ 4
                · have du4 : decide (4 < (u.length : Int)) = false := decide_eq_false (by omega)
                  have HU4 := Aside0.mk hu4
                  by_cases hp0 : 0 ≤ par
                  · have dp0 : decide (par < 0) = false := decide_eq_false (by omega)
                    by_cases hpk : par < kk
                    · have dpk : decide ((kk : Int) ≤ par) = false := decide_eq_false (by omega)
                      have HPK := Aside0.mk (And.intro hp0 hpk)
                      clear hp0 hpk hu4
                      have hfun : ∀ (W : World) (B : Nat), Below wr.heap.size wr W → W.cell? ⟨B, 0, none⟩ = some (.int .i64 par) → W.cell? ⟨B + 1, 0, none⟩ = some (.string nm) → W.cell? ⟨B + 2, 0, none⟩ = some (.slice A1 u.length c1) →
                          Calls Try.prog 67 #[.slice (some ad) kk c0, .func (.func 90) #[] #[.pointer (some ⟨B, 0, none⟩), .pointer (some ⟨B + 1, 0, none⟩), .pointer (some ⟨B + 2, 0, none⟩)]] W fun e w' => e = .returned (.bool ((l0.take kk).any (isB par nm u))) ∧ Below W.heap.size W w' := fun W B hb g1 g2 g3 => by
                        have hl : (l0.take kk).length = kk := by simp; omega
                        have z := hasf_T92 (isB par nm u) 90 #[.pointer (some ⟨B, 0, none⟩), .pointer (some ⟨B + 1, 0, none⟩), .pointer (some ⟨B + 2, 0, none⟩)] (enters_of Try.func90 (by kernel_rfl) rfl) (some ad) c0 (l0.take kk) W (Kd.C_take (Kd.C_below (Kd.C_below HR0.out BW.out) hb) (by omega)) (by have := HC0.out; omega) (is_pred par nm A1 u c1 B W g1 g2 g3 (Kd.C_below HU.out hb) HLU.out)
                        rw [hl] at z
                        exact z
                      have HF := Aside0.mk hfun
                      clear hfun
                      generalize hX : ((l0.take kk).any (isB par nm u)) = X at *
                      have HX := Aside0.mk hX
                      clear hX
                      have hk1 : kk ≤ c0 := by have := HC0.out; omega
                      have hk2 : (kk : Int) ≤ (c0 : Int) := by omega
                      go_wp2_with (first | (go_at_call 65; refine (HP.out _ (by repeat (first | exact Below.refl _ _ | apply below_alloc))).mono ?_; rintro e w1 ⟨rfl, hb1⟩; obtain ⟨q0, q1, q2, q3, q4⟩ := box5 hb1; have hz1 := hb1.size; simp only [World.size_alloc] at hz1; have HB1 := Aside0.mk hb1; clear hb1) | (go_at_call 66; refine (hnm _).mono ?_; rintro e w' ⟨rfl, m, rfl⟩))
                      have HB2 := Aside0.mk (show Below wr.heap.size wr (w1.drewN m) from pw_below_drewN (below_go (below_alloc (Below.refl _ _) _) HB1.out) _)
                      obtain ⟨w2, hw2⟩ : ∃ w2, w1.drewN m = w2 := ⟨_, rfl⟩
                      rw [hw2] at HB2 ⊢
                      have r0 : w2.cell? ⟨wr.heap.size, 0, none⟩ = some (.string nm) := by rw [← hw2]; exact q0
                      have r1 : w2.cell? ⟨wr.heap.size, 1, none⟩ = some (.slice A1 u.length c1) := by rw [← hw2]; exact q1
                      have r2 : w2.cell? ⟨wr.heap.size, 2, none⟩ = some (.int .i64 par) := by rw [← hw2]; exact q2
                      clear hw2 q0 q1 q2 q3 q4 hz1 HB1
                      go_region_with (first
                        | (go_at_call 68; refine (is68' _ _ _ _ _ _).mono ?_; rintro e w3 ⟨B, rfl, g1, g2, g3, hb3⟩)
                        | (go_at_call 67; refine (HF.out _ B (by exact below_go (by repeat (first | exact HB2.out | apply pw_below_drewN | apply below_drew)) hb3) g1 g2 g3).mono ?_; rintro e w4 ⟨rfl, hb4⟩))
                      all_goals
                        have HB5 := Aside0.mk (show Below w.heap.size w w4 from below_go (below_go BW.out (below_go (by repeat (first | exact HB2.out | apply pw_below_drewN | apply below_drew)) hb3)) hb4)
                        clear hb3 hb4 g1 g2 g3 r0 r1 r2
                        cases X with
                        | true =>
                          go_wp2
                          go_ret
                          refine ⟨by rw [E1.out, all_stop hlt (by rw [HN.out]; simp only [nodeX, HX.out]; simp [HK0.out])]; rfl, HB5.out⟩
                        | false =>
                          go_wp2
                          go_roundg (l0.length - (kk + 1))
                          case measure => omega
                          case rel =>
                            refine ⟨kk + 1, by omega, by omega, by go_num, ⟨HB5.out⟩, ⟨fun j hj => ?_⟩⟩
                            by_cases e : j = kk
                            · subst e
                              rw [HN.out]; simp only [nodeX, HX.out]; simp [hce, HPB.out, HK0.out, HNB.out, HU4.out, HPK.out.1, HPK.out.2]
                            · exact A.out j (by omega)
                    · have dpk : decide ((kk : Int) ≤ par) = true := decide_eq_true (by omega)
                      have HPK := Aside0.mk hpk
                      have HP0 := Aside0.mk hp0
                      clear hpk hp0
                      go_wp2_with (first | (go_at_call 65; refine (HP.out _ (by repeat (first | exact Below.refl _ _ | apply below_alloc))).mono ?_; rintro e w1 ⟨rfl, hb1⟩; obtain ⟨q0, q1, q2, q3, q4⟩ := box5 hb1; have hz1 := hb1.size; simp only [World.size_alloc] at hz1; have HB1 := Aside0.mk hb1; clear hb1) | (go_at_call 66; refine (hnm _).mono ?_; rintro e w' ⟨rfl, m, rfl⟩))
                      go_ret
                      refine ⟨by rw [E1.out, all_stop hlt (by rw [HN.out]; simp [nodeX, HK0.out, show ¬ par < (kk : Int) from Int.not_lt.mpr HPK.out])]; rfl, pw_below_drewN (below_go (below_alloc BW.out _) HB1.out) _⟩
                  · have dp0 : decide (par < 0) = true := decide_eq_true (by omega)
                    have HP0 := Aside0.mk hp0
                    clear hp0
                    go_wp2_with (first | (go_at_call 65; refine (HP.out _ (by repeat (first | exact Below.refl _ _ | apply below_alloc))).mono ?_; rintro e w1 ⟨rfl, hb1⟩; obtain ⟨q0, q1, q2, q3, q4⟩ := box5 hb1; have hz1 := hb1.size; simp only [World.size_alloc] at hz1; have HB1 := Aside0.mk hb1; clear hb1) | (go_at_call 66; refine (hnm _).mono ?_; rintro e w' ⟨rfl, m, rfl⟩))
                    go_ret
                    refine ⟨by rw [E1.out, all_stop hlt (by rw [HN.out]; simp [nodeX, HK0.out, show ¬ 0 ≤ par from Int.not_le.mpr HP0.out])]; rfl, pw_below_drewN (below_go (below_alloc BW.out _) HB1.out) _⟩
                · have du4 : decide (4 < (u.length : Int)) = true := decide_eq_true (by omega)
                  have HU4 := Aside0.mk hu4
                  clear hu4
                  go_wp2_with (first | (go_at_call 65; refine (HP.out _ (by repeat (first | exact Below.refl _ _ | apply below_alloc))).mono ?_; rintro e w1 ⟨rfl, hb1⟩; obtain ⟨q0, q1, q2, q3, q4⟩ := box5 hb1; have hz1 := hb1.size; simp only [World.size_alloc] at hz1; have HB1 := Aside0.mk hb1; clear hb1) | (go_at_call 66; refine (hnm _).mono ?_; rintro e w' ⟨rfl, m, rfl⟩))
                  go_ret
                  refine ⟨by rw [E1.out, all_stop hlt (by rw [HN.out]; simp [nodeX, HK0.out, HU4.out])]; rfl, pw_below_drewN (below_go (below_alloc BW.out _) HB1.out) _⟩
        · have dce : decide (16 < (ce.length : Int)) = true := decide_eq_true (by omega)
          have HCE := Aside0.mk hce
          clear hce hp hnm
          go_wp2
          go_ret
          refine ⟨by rw [E1.out, all_stop hlt (by rw [HN.out]; simp [nodeX, HCE.out])]; rfl, below_alloc BW.out _⟩
      · have hltz : ¬ (kk : Int) < (l0.length : Int) := by omega
        go_wp2
        go_ret
        refine ⟨?_, BW.out⟩
        rw [E1.out, all_true (fun j hj => A.out j (by omega))]
        rfl
  · have d32 : decide (32 < (l0.length : Int)) = true := decide_eq_true (by omega)
    have E1 : treeB l0 = false := by unfold treeB; rw [decide_eq_false h32]; simp
    rw [E1]
    clear h1 E1
    go_enter Try.func37, Try.ntmps37
    go_wp2
    go_ret
    exact ⟨rfl, Below.refl _ _⟩
end Go.Proofs.Ytpalbpakeokimaa.PK
