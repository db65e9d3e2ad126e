/- tinder: a part of the proof, joined and pruned by wip/tools/prune.py out of: Gs -/
import Derived.Test.YtpalbpakeokimaaFK55
import Derived.Test.YtpalbpakeokimaaFK66
import Derived.Test.YtpalbpakeokimaaFGh0
import Derived.Deep.QuietTactic
import Derived.BigQuiet
namespace Go.Proofs.Ytpalbpakeokimaa.PK
set_option linter.unusedVariables false
set_option linter.unusedSimpArgs false
open Go.RowKit Go.Proofs.YtpalbpakeokimaaW.PrintWords Go.Proofs.YtpalbpakeokimaaW.PrintLast Go.Proofs.YtpalbpakeokimaaW.PrintMore
theorem same03_l0 (l : List Int) (hl : l.length ≤ 9223372036854775807) : ∀ (d i : Nat), i + d = l.length → tinderref03_Same.l0 (d + 1) l l (i : Int) = some true := by
  intro d
  induction d with
  | zero =>
    intro i hi
    unfold tinderref03_Same.l0
    rw [if_neg (by omega)]
  | succ d ih =>
    intro i hi
    unfold tinderref03_Same.l0
    rw [if_pos (by omega), if_pos (by omega), if_pos (by omega), if_pos rfl]
    have hw : wrap64 ((i : Int) + 1) = ((i + 1 : Nat) : Int) := by unfold wrap64; omega
    rw [hw]
    exact ih (i + 1) (by omega)
theorem same80q (l : List Int) (A : Option Addr) (c : Nat) (B : Option Addr) (d : Nat) (w W : World) (hA : Kd.C (Kd.int .u32) w A l.length l) (hc : l.length ≤ c) (hB : Kd.C (Kd.int .u32) w B l.length l) (hd : l.length ≤ d) (hb : Below w.heap.size w W) :
    Calls Try.prog 80 #[.slice A l.length c, .slice B l.length d] W fun e w' => e = .returned (.bool true) ∧ ∃ m, w' = W.drewN m := by
  have hl := hA.2.1
  refine (tinderref03_Same.calls (l.length + 1) A c l B d l true W (Kd.C_below hA hb) hc (Kd.C_below hB hb) hd ?_).mono fun e w' ⟨he, hw⟩ => ⟨he, hw.out⟩
  unfold tinderref03_Same.f
  rw [if_pos rfl]
  exact same03_l0 l hl l.length 0 (by omega)
theorem same81q (l : List Int) (A : Option Addr) (c : Nat) (B : Option Addr) (d : Nat) (w W : World) (hA : Kd.C (Kd.int .u8) w A l.length l) (hc : l.length ≤ c) (hB : Kd.C (Kd.int .u8) w B l.length l) (hd : l.length ≤ d) (hb : Below w.heap.size w W) :
    Calls Try.prog 81 #[.slice A l.length c, .slice B l.length d] W fun e w' => e = .returned (.bool true) ∧ ∃ m, w' = W.drewN m := by
  refine (tinderref04_Same.calls A c l B d l true W (Kd.C_below hA hb) hc (Kd.C_below hB hb) hd (by unfold tinderref04_Same.f; simp)).mono fun e w' ⟨he, hw⟩ => ⟨he, hw.out⟩
set_option maxHeartbeats 4000000 in
set_option maxRecDepth 100000 in
theorem sameWord_true (x : S45) (ca cb : List Value) (w : World) (ha : k45.K w x ca) (hb : k45.K w x cb) :
    Calls Try.prog 45 #[.agg ca.toArray, .agg cb.toArray] w fun e w' => e = .returned (.bool true) ∧ Below w.heap.size w w' := by
  obtain ⟨A4, c4, rfl, i4, g4⟩ := k45_open ha
  obtain ⟨B4, d4, rfl, j4, h4⟩ := k45_open hb
  obtain ⟨n0, n1, n2, n3, l⟩ := x
  simp only at i4 g4 j4 h4
  clear ha hb
  have hmx := g4.2.1
  have GA := Aside0.mk g4
  have GB := Aside0.mk h4
  clear g4 h4 i4 j4
  have L0 := below_alloc (below_alloc (Below.refl w.heap.size w) (.cells #[.string n0, .int .i64 n1, .int .i64 n2, .int .u32 n3, .slice A4 l.length c4] 45)) (.cells #[.string n0, .int .i64 n1, .int .i64 n2, .int .u32 n3, .slice B4 l.length d4] 45)
  have N1 := blk_new (w.alloc (.cells #[.string n0, .int .i64 n1, .int .i64 n2, .int .u32 n3, .slice A4 l.length c4] 45)) (.cells #[.string n0, .int .i64 n1, .int .i64 n2, .int .u32 n3, .slice B4 l.length d4] 45)
  have hz0 : (w.alloc (.cells #[.string n0, .int .i64 n1, .int .i64 n2, .int .u32 n3, .slice A4 l.length c4] 45)).heap.size = w.heap.size + 1 := by simp
  have N0 := ((below_alloc (Below.refl (w.alloc (.cells #[.string n0, .int .i64 n1, .int .i64 n2, .int .u32 n3, .slice A4 l.length c4] 45)).heap.size (w.alloc (.cells #[.string n0, .int .i64 n1, .int .i64 n2, .int .u32 n3, .slice A4 l.length c4] 45))) (.cells #[.string n0, .int .i64 n1, .int .i64 n2, .int .u32 n3, .slice B4 l.length d4] 45)).block _ (blk_lt (blk_new w (.cells #[.string n0, .int .i64 n1, .int .i64 n2, .int .u32 n3, .slice A4 l.length c4] 45)))).trans (blk_new w (.cells #[.string n0, .int .i64 n1, .int .i64 n2, .int .u32 n3, .slice A4 l.length c4] 45))
  rw [hz0] at N1
  have HB := Aside0.mk L0
  have BA := Aside0.mk N0
  have BB := Aside0.mk N1
  clear L0 N0 N1 hz0
  go_enter Try.func45, Try.ntmps45
  go_wp2
  obtain ⟨W1, hW1⟩ : ∃ W1, (w.alloc (.cells #[.string n0, .int .i64 n1, .int .i64 n2, .int .u32 n3, .slice A4 l.length c4] 45)).alloc (.cells #[.string n0, .int .i64 n1, .int .i64 n2, .int .u32 n3, .slice B4 l.length d4] 45) = W1 := ⟨_, rfl⟩
  rw [hW1] at HB BA BB
  rw [hW1]
  clear hW1
  go_loopg [5] l.length (fun gg v5 wr => ∃ x5 : Int, 0 ≤ x5 ∧ x5 ≤ (l.length : Int) ∧ l.length - x5.toNat ≤ gg ∧ v5 = .int .i64 x5 ∧ Aside0 (wr.heap[w.heap.size]? = some (.cells #[.string n0, .int .i64 n1, .int .i64 n2, .int .u32 n3, .slice A4 l.length c4] 45 (0, 0))) ∧ Aside0 (wr.heap[w.heap.size + 1]? = some (.cells #[.string n0, .int .i64 n1, .int .i64 n2, .int .u32 n3, .slice B4 l.length d4] 45 (0, 0))) ∧ Aside0 (Below w.heap.size w wr))
  case atStart => exact ⟨0, by omega, by omega, by omega, rfl, BA, BB, HB⟩
  case round =>
    clear HB BA BB
    obtain ⟨x5, h0, hle, hgg, rfl, BA, BB, HB⟩ := hrel
    have u4 := cell_of_row _ _ 4 _ _ _ BA.out
    have y4 := cell_of_row _ _ 4 _ _ _ BB.out
    simp only [List.getElem?_toArray, List.getElem?_cons_succ, List.getElem?_cons_zero] at u4 y4
    by_cases hlt : x5 < (l.length : Int)
    · obtain ⟨ad, e, z0, z1⟩ := at_T57 GA.out x5 h0 hlt
      cases e
      obtain ⟨bd, e, q0, q1⟩ := at_T57 GB.out x5 h0 hlt
      cases e
      replace z0 := (HB.out.cell (World.block_lt_of_cell? w _ z0)).trans z0
      replace z1 := (HB.out.cell (World.block_lt_of_cell? w _ z1)).trans z1
      replace q0 := (HB.out.cell (World.block_lt_of_cell? w _ q0)).trans q0
      replace q1 := (HB.out.cell (World.block_lt_of_cell? w _ q1)).trans q1
      have p0 := eq_true h0
      have p1 := eq_true hlt
      have hw1 : wrap64 (x5 + 1) = x5 + 1 := by unfold wrap64; omega
      go_wp2
      go_quiet (fail)
      go_wp2
      go_roundg (l.length - (x5.toNat + 1))
      case measure => omega
      case rel => exact ⟨x5 + 1, by omega, by omega, by omega, by first | rfl | go_num, ⟨BA.out⟩, ⟨BB.out⟩, ⟨pw_below_drewN HB.out _⟩⟩
    · go_wp2
      go_ret
      exact ⟨by first | rfl | simp, HB.out⟩
theorem same80b (l : List Int) (A : Option Addr) (c : Nat) (B : Option Addr) (d : Nat) (w W : World) (hA : Kd.C (Kd.int .u32) w A l.length l) (hc : l.length ≤ c) (hB : Kd.C (Kd.int .u32) w B l.length l) (hd : l.length ≤ d) (hb : Below w.heap.size w W) :
    Calls Try.prog 80 #[.slice A l.length c, .slice B l.length d] W fun e w' => e = .returned (.bool true) ∧ Below W.heap.size W w' :=
  (same80q l A c B d w W hA hc hB hd hb).mono fun e w' ⟨he, m, hw⟩ => ⟨he, by rw [hw]; exact pw_below_drewN (Below.refl _ _) m⟩
theorem same81b (l : List Int) (A : Option Addr) (c : Nat) (B : Option Addr) (d : Nat) (w W : World) (hA : Kd.C (Kd.int .u8) w A l.length l) (hc : l.length ≤ c) (hB : Kd.C (Kd.int .u8) w B l.length l) (hd : l.length ≤ d) (hb : Below w.heap.size w W) :
    Calls Try.prog 81 #[.slice A l.length c, .slice B l.length d] W fun e w' => e = .returned (.bool true) ∧ Below W.heap.size W w' :=
  (same81q l A c B d w W hA hc hB hd hb).mono fun e w' ⟨he, m, hw⟩ => ⟨he, by rw [hw]; exact pw_below_drewN (Below.refl _ _) m⟩
set_option maxHeartbeats 4000000 in
set_option maxRecDepth 100000 in
theorem sameInst_true (x : S80) (ca cb : List Value) (w : World) (ha : k80.K w x ca) (hb : k80.K w x cb) :
    Calls Try.prog 78 #[.agg ca.toArray, .agg cb.toArray] w fun e w' => e = .returned (.bool true) ∧ Below w.heap.size w w' := by
  obtain ⟨A3, c3, rfl, i3, g3⟩ := k80_open ha
  obtain ⟨B3, d3, rfl, j3, h3⟩ := k80_open hb
  obtain ⟨n0, n1, n2, l⟩ := x
  simp only at i3 g3 j3 h3
  clear ha hb
  have G := Aside0.mk (fun W hW => same80b l A3 c3 B3 d3 w W g3 i3 h3 j3 hW)
  have L0 := below_alloc (below_alloc (Below.refl w.heap.size w) (.cells #[.int .i64 n0, .int .i64 n1, .string n2, .slice A3 l.length c3] 80)) (.cells #[.int .i64 n0, .int .i64 n1, .string n2, .slice B3 l.length d3] 80)
  have N1 := blk_new (w.alloc (.cells #[.int .i64 n0, .int .i64 n1, .string n2, .slice A3 l.length c3] 80)) (.cells #[.int .i64 n0, .int .i64 n1, .string n2, .slice B3 l.length d3] 80)
  have hz0 : (w.alloc (.cells #[.int .i64 n0, .int .i64 n1, .string n2, .slice A3 l.length c3] 80)).heap.size = w.heap.size + 1 := by simp
  have N0 := ((below_alloc (Below.refl (w.alloc (.cells #[.int .i64 n0, .int .i64 n1, .string n2, .slice A3 l.length c3] 80)).heap.size (w.alloc (.cells #[.int .i64 n0, .int .i64 n1, .string n2, .slice A3 l.length c3] 80))) (.cells #[.int .i64 n0, .int .i64 n1, .string n2, .slice B3 l.length d3] 80)).block _ (blk_lt (blk_new w (.cells #[.int .i64 n0, .int .i64 n1, .string n2, .slice A3 l.length c3] 80)))).trans (blk_new w (.cells #[.int .i64 n0, .int .i64 n1, .string n2, .slice A3 l.length c3] 80))
  rw [hz0] at N1
  have HB := Aside0.mk L0
  have BA := Aside0.mk N0
  have BB := Aside0.mk N1
  clear L0 N0 N1 hz0
  clear g3 h3 i3 j3 BA BB
  go_enter Try.func78, Try.ntmps78
  go_wp2_with (go_at_call 80; refine (G.out _ HB.out).mono ?_; rintro e wF ⟨rfl, hbF⟩)
  go_ret
  exact ⟨by first | rfl | simp, below_then HB.out HB.out.size hbF⟩
set_option maxHeartbeats 4000000 in
set_option maxRecDepth 100000 in
theorem sameNode_true (x : S92) (ca cb : List Value) (w : World) (ha : k92.K w x ca) (hb : k92.K w x cb) :
    Calls Try.prog 94 #[.agg ca.toArray, .agg cb.toArray] w fun e w' => e = .returned (.bool true) ∧ Below w.heap.size w w' := by
  obtain ⟨A1, c1, A3, c3, A4, c4, rfl, i1, g1, i3, g3, i4, g4⟩ := k92_open ha
  obtain ⟨B1, d1, B3, d3, B4, d4, rfl, j1, h1, j3, h3, j4, h4⟩ := k92_open hb
  obtain ⟨n0, l1, n2, l3, l4⟩ := x
  simp only at i1 g1 i3 g3 i4 g4 j1 h1 j3 h3 j4 h4
  clear ha hb
  have hmx := g3.2.1
  have G1 := Aside0.mk (fun W hW => same80b l1 A1 c1 B1 d1 w W g1 i1 h1 j1 hW)
  have G4 := Aside0.mk (fun W hW => same80b l4 A4 c4 B4 d4 w W g4 i4 h4 j4 hW)
  have GA := Aside0.mk g3
  have GB := Aside0.mk h3
  clear g1 h1 i1 j1 g4 h4 i4 j4 g3 h3 i3 j3
  have L0 := below_alloc (below_alloc (Below.refl w.heap.size w) (.cells #[.string n0, .slice A1 l1.length c1, .int .i64 n2, .slice A3 l3.length c3, .slice A4 l4.length c4] 92)) (.cells #[.string n0, .slice B1 l1.length d1, .int .i64 n2, .slice B3 l3.length d3, .slice B4 l4.length d4] 92)
  have N1 := blk_new (w.alloc (.cells #[.string n0, .slice A1 l1.length c1, .int .i64 n2, .slice A3 l3.length c3, .slice A4 l4.length c4] 92)) (.cells #[.string n0, .slice B1 l1.length d1, .int .i64 n2, .slice B3 l3.length d3, .slice B4 l4.length d4] 92)
  have hz0 : (w.alloc (.cells #[.string n0, .slice A1 l1.length c1, .int .i64 n2, .slice A3 l3.length c3, .slice A4 l4.length c4] 92)).heap.size = w.heap.size + 1 := by simp
  have N0 := ((below_alloc (Below.refl (w.alloc (.cells #[.string n0, .slice A1 l1.length c1, .int .i64 n2, .slice A3 l3.length c3, .slice A4 l4.length c4] 92)).heap.size (w.alloc (.cells #[.string n0, .slice A1 l1.length c1, .int .i64 n2, .slice A3 l3.length c3, .slice A4 l4.length c4] 92))) (.cells #[.string n0, .slice B1 l1.length d1, .int .i64 n2, .slice B3 l3.length d3, .slice B4 l4.length d4] 92)).block _ (blk_lt (blk_new w (.cells #[.string n0, .slice A1 l1.length c1, .int .i64 n2, .slice A3 l3.length c3, .slice A4 l4.length c4] 92)))).trans (blk_new w (.cells #[.string n0, .slice A1 l1.length c1, .int .i64 n2, .slice A3 l3.length c3, .slice A4 l4.length c4] 92))
  rw [hz0] at N1
  have HB := Aside0.mk L0
  have BA := Aside0.mk N0
  have BB := Aside0.mk N1
  clear L0 N0 N1 hz0
  go_enter Try.func94, Try.ntmps94
  go_wp2_with (first | (go_at_call 80; refine (G1.out _ HB.out).mono ?_; rintro e wF ⟨rfl, hbF⟩; have B2 := Aside0.mk ((hbF.block _ (blk_lt BA.out)).trans BA.out); have D2 := Aside0.mk ((hbF.block _ (blk_lt BB.out)).trans BB.out); have H2 := Aside0.mk (below_then HB.out HB.out.size hbF); clear BA BB HB hbF; have BA := B2; have BB := D2; have HB := H2; clear B2 D2 H2; (try clear ka0 ka1 ka2 ka3 ka4 kb0 kb1 kb2 kb3 kb4); have ka0 := cell_of_row _ _ 0 _ _ _ BA.out; have ka1 := cell_of_row _ _ 1 _ _ _ BA.out; have ka2 := cell_of_row _ _ 2 _ _ _ BA.out; have ka3 := cell_of_row _ _ 3 _ _ _ BA.out; have ka4 := cell_of_row _ _ 4 _ _ _ BA.out; have kb0 := cell_of_row _ _ 0 _ _ _ BB.out; have kb1 := cell_of_row _ _ 1 _ _ _ BB.out; have kb2 := cell_of_row _ _ 2 _ _ _ BB.out; have kb3 := cell_of_row _ _ 3 _ _ _ BB.out; have kb4 := cell_of_row _ _ 4 _ _ _ BB.out; simp only [List.getElem?_toArray, List.getElem?_cons_succ, List.getElem?_cons_zero] at ka0 ka1 ka2 ka3 ka4 kb0 kb1 kb2 kb3 kb4; clear G1) | (go_at_call 80; refine (G4.out _ HB.out).mono ?_; rintro e wF ⟨rfl, hbF⟩; have B2 := Aside0.mk ((hbF.block _ (blk_lt BA.out)).trans BA.out); have D2 := Aside0.mk ((hbF.block _ (blk_lt BB.out)).trans BB.out); have H2 := Aside0.mk (below_then HB.out HB.out.size hbF); clear BA BB HB hbF; have BA := B2; have BB := D2; have HB := H2; clear B2 D2 H2; (try clear ka0 ka1 ka2 ka3 ka4 kb0 kb1 kb2 kb3 kb4); have ka0 := cell_of_row _ _ 0 _ _ _ BA.out; have ka1 := cell_of_row _ _ 1 _ _ _ BA.out; have ka2 := cell_of_row _ _ 2 _ _ _ BA.out; have ka3 := cell_of_row _ _ 3 _ _ _ BA.out; have ka4 := cell_of_row _ _ 4 _ _ _ BA.out; have kb0 := cell_of_row _ _ 0 _ _ _ BB.out; have kb1 := cell_of_row _ _ 1 _ _ _ BB.out; have kb2 := cell_of_row _ _ 2 _ _ _ BB.out; have kb3 := cell_of_row _ _ 3 _ _ _ BB.out; have kb4 := cell_of_row _ _ 4 _ _ _ BB.out; simp only [List.getElem?_toArray, List.getElem?_cons_succ, List.getElem?_cons_zero] at ka0 ka1 ka2 ka3 ka4 kb0 kb1 kb2 kb3 kb4; clear G4))
  go_loopg [5] l3.length (fun gg v5 wr => ∃ x5 : Int, 0 ≤ x5 ∧ x5 ≤ (l3.length : Int) ∧ l3.length - x5.toNat ≤ gg ∧ v5 = .int .i64 x5 ∧ Aside0 (wr.heap[w.heap.size]? = some (.cells #[.string n0, .slice A1 l1.length c1, .int .i64 n2, .slice A3 l3.length c3, .slice A4 l4.length c4] 92 (0, 0))) ∧ Aside0 (wr.heap[w.heap.size + 1]? = some (.cells #[.string n0, .slice B1 l1.length d1, .int .i64 n2, .slice B3 l3.length d3, .slice B4 l4.length d4] 92 (0, 0))) ∧ Aside0 (Below w.heap.size w wr))
  case atStart => exact ⟨0, by omega, by omega, by omega, rfl, BA, BB, HB⟩
  case round =>
    clear HB BA BB ka0 ka1 ka2 ka3 ka4 kb0 kb1 kb2 kb3 kb4
    obtain ⟨x5, h0, hle, hgg, rfl, BA, BB, HB⟩ := hrel
    have ka0 := cell_of_row _ _ 0 _ _ _ BA.out; have ka1 := cell_of_row _ _ 1 _ _ _ BA.out; have ka2 := cell_of_row _ _ 2 _ _ _ BA.out; have ka3 := cell_of_row _ _ 3 _ _ _ BA.out; have ka4 := cell_of_row _ _ 4 _ _ _ BA.out; have kb0 := cell_of_row _ _ 0 _ _ _ BB.out; have kb1 := cell_of_row _ _ 1 _ _ _ BB.out; have kb2 := cell_of_row _ _ 2 _ _ _ BB.out; have kb3 := cell_of_row _ _ 3 _ _ _ BB.out; have kb4 := cell_of_row _ _ 4 _ _ _ BB.out; simp only [List.getElem?_toArray, List.getElem?_cons_succ, List.getElem?_cons_zero] at ka0 ka1 ka2 ka3 ka4 kb0 kb1 kb2 kb3 kb4
    by_cases hlt : x5 < (l3.length : Int)
    · obtain ⟨ad, E1, e1, e, z0, z1, v1, w1⟩ := at_T102 GA.out x5 h0 hlt
      cases e
      obtain ⟨bd, F1, f1, e, q0, q1, s1, t1⟩ := at_T102 GB.out x5 h0 hlt
      cases e
      replace z0 := (HB.out.cell (World.block_lt_of_cell? w _ z0)).trans z0
      replace z1 := (HB.out.cell (World.block_lt_of_cell? w _ z1)).trans z1
      replace q0 := (HB.out.cell (World.block_lt_of_cell? w _ q0)).trans q0
      replace q1 := (HB.out.cell (World.block_lt_of_cell? w _ q1)).trans q1
      have G := Aside0.mk (fun n => same81q _ E1 e1 F1 f1 w (wr.drewN n) w1 v1 t1 s1 (pw_below_drewN HB.out n))
      clear v1 w1 s1 t1
      have p0 := eq_true h0
      have p1 := eq_true hlt
      have hw1 : wrap64 (x5 + 1) = x5 + 1 := by unfold wrap64; omega
      go_wp2
      go_quiet ((go_at_call 81; exact Calls.quiet_of (G.out _)))
      go_wp2
      go_roundg (l3.length - (x5.toNat + 1))
      case measure => omega
      case rel => exact ⟨x5 + 1, by omega, by omega, by omega, by first | rfl | go_num, ⟨BA.out⟩, ⟨BB.out⟩, ⟨pw_below_drewN HB.out _⟩⟩
    · go_wp2
      go_ret
      exact ⟨by first | rfl | simp, HB.out⟩
set_option maxHeartbeats 4000000 in
set_option maxRecDepth 100000 in
theorem same08_true (l : List S92) (A : Option Addr) (c : Nat) (B : Option Addr) (d : Nat) (w W : World) (hA : Kd.C k92 w A l.length l) (hc : l.length ≤ c) (hB : Kd.C k92 w B l.length l) (hd : l.length ≤ d) (hbW : Below w.heap.size w W) :
    Calls Try.prog 82 #[.slice A l.length c, .slice B l.length d] W fun e w' => e = .returned (.bool true) ∧ Below w.heap.size w w' := by
  have hmx := hA.2.1
  have GA := Aside0.mk hA
  have GB := Aside0.mk hB
  have HB := Aside0.mk hbW
  clear hA hB hc hd hbW
  go_enter Try.func82, Try.ntmps82
  go_wp2
  go_loopg [5] l.length (fun gg v5 wr => ∃ x5 : Int, 0 ≤ x5 ∧ x5 ≤ (l.length : Int) ∧ l.length - x5.toNat ≤ gg ∧ v5 = .int .i64 x5 ∧ Aside0 (Below w.heap.size w wr))
  case atStart => exact ⟨0, by omega, by omega, by omega, rfl, HB⟩
  case round =>
    clear HB
    obtain ⟨x5, h0, hle, hgg, rfl, HB⟩ := hrel
    by_cases hlt : x5 < (l.length : Int)
    · obtain ⟨ad, E1, e1, E3, e3, E4, e4, e, z0, z1, z2, z3, z4, i1, g1, i3, g3, i4, g4⟩ := at_T92 GA.out x5 h0 hlt
      cases e
      obtain ⟨bd, F1, f1, F3, f3, F4, f4, e, q0, q1, q2, q3, q4, j1, k1, j3, k3, j4, k4⟩ := at_T92 GB.out x5 h0 hlt
      cases e
      have KA := Aside0.mk (k92_mk w (rd_T92 l x5) i1 g1 i3 g3 i4 g4)
      have KB := Aside0.mk (k92_mk w (rd_T92 l x5) j1 k1 j3 k3 j4 k4)
      clear i1 g1 i3 g3 i4 g4 j1 k1 j3 k3 j4 k4
      replace z0 := ((HB.out.cell (World.block_lt_of_cell? w _ z0)).trans z0)
      replace z1 := ((HB.out.cell (World.block_lt_of_cell? w _ z1)).trans z1)
      replace z2 := ((HB.out.cell (World.block_lt_of_cell? w _ z2)).trans z2)
      replace z3 := ((HB.out.cell (World.block_lt_of_cell? w _ z3)).trans z3)
      replace z4 := ((HB.out.cell (World.block_lt_of_cell? w _ z4)).trans z4)
      replace q0 := ((HB.out.cell (World.block_lt_of_cell? w _ q0)).trans q0)
      replace q1 := ((HB.out.cell (World.block_lt_of_cell? w _ q1)).trans q1)
      replace q2 := ((HB.out.cell (World.block_lt_of_cell? w _ q2)).trans q2)
      replace q3 := ((HB.out.cell (World.block_lt_of_cell? w _ q3)).trans q3)
      replace q4 := ((HB.out.cell (World.block_lt_of_cell? w _ q4)).trans q4)
      have p0 := eq_true h0
      have p1 := eq_true hlt
      have hw1 : wrap64 (x5 + 1) = x5 + 1 := by unfold wrap64; omega
      go_wp2
      refine start_ (n := 10) (S := fun w' => w'.cell? (ad.add (x5.toNat * 5)) = some (.string (rd_T92 l x5).f0) ∧ w'.cell? ⟨(ad.add (x5.toNat * 5)).block, (ad.add (x5.toNat * 5)).off + 1, none⟩ = some (.slice E1 (rd_T92 l x5).f1.length e1) ∧ w'.cell? ⟨(ad.add (x5.toNat * 5)).block, (ad.add (x5.toNat * 5)).off + 2, none⟩ = some (.int .i64 (rd_T92 l x5).f2) ∧ w'.cell? ⟨(ad.add (x5.toNat * 5)).block, (ad.add (x5.toNat * 5)).off + 3, none⟩ = some (.slice E3 (rd_T92 l x5).f3.length e3) ∧ w'.cell? ⟨(ad.add (x5.toNat * 5)).block, (ad.add (x5.toNat * 5)).off + 4, none⟩ = some (.slice E4 (rd_T92 l x5).f4.length e4) ∧ w'.cell? (bd.add (x5.toNat * 5)) = some (.string (rd_T92 l x5).f0) ∧ w'.cell? ⟨(bd.add (x5.toNat * 5)).block, (bd.add (x5.toNat * 5)).off + 1, none⟩ = some (.slice F1 (rd_T92 l x5).f1.length f1) ∧ w'.cell? ⟨(bd.add (x5.toNat * 5)).block, (bd.add (x5.toNat * 5)).off + 2, none⟩ = some (.int .i64 (rd_T92 l x5).f2) ∧ w'.cell? ⟨(bd.add (x5.toNat * 5)).block, (bd.add (x5.toNat * 5)).off + 3, none⟩ = some (.slice F3 (rd_T92 l x5).f3.length f3) ∧ w'.cell? ⟨(bd.add (x5.toNat * 5)).block, (bd.add (x5.toNat * 5)).off + 4, none⟩ = some (.slice F4 (rd_T92 l x5).f4.length f4)) (ds := []) #[false, false, false, false, false, false, false, false, false, false] (by kernel_rfl) rfl rfl ⟨z0, z1, z2, z3, z4, q0, q1, q2, q3, q4⟩ (fun hHeld => ?_)
      refine pure_ (i := 0) (N := some 17) (v := ?_) (a' := ?_) #[true, false, false, false, false, false, false, false, false, false] rfl rfl (by kernel_rfl) (fun _ _ _ h => h) (Or.inl ⟨by rfl, ?_⟩) ?_ ?_
      rotate_left
      · intro w'
        go_simp
        with_reducible rfl
      rotate_left
      · simp only [Act.put, List.setIfInBounds_toArray, List.set_cons_zero, List.set_cons_succ]
        rfl
      refine pure_ (i := 1) (N := some 18) (v := ?_) (a' := ?_) #[true, true, false, false, false, false, false, false, false, false] rfl rfl (by kernel_rfl) (fun _ _ _ h => h) (Or.inl ⟨by rfl, ?_⟩) ?_ ?_
      rotate_left
      · intro w'
        go_simp
        with_reducible rfl
      rotate_left
      · simp only [Act.put, List.setIfInBounds_toArray, List.set_cons_zero, List.set_cons_succ]
        rfl
      refine pure_ (i := 2) (N := some 19) (v := ?_) (a' := ?_) #[true, true, true, false, false, false, false, false, false, false] rfl rfl (by kernel_rfl) (fun _ _ _ h => h) (Or.inl ⟨by rfl, ?_⟩) ?_ ?_
      rotate_left
      · intro w'
        go_simp
        with_reducible rfl
      rotate_left
      · simp only [Act.put, List.setIfInBounds_toArray, List.set_cons_zero, List.set_cons_succ]
        rfl
      refine pure_ (i := 4) (N := some 21) (v := ?_) (a' := ?_) #[true, true, true, false, true, false, false, false, false, false] rfl rfl (by kernel_rfl) (fun _ _ _ h => h) (Or.inl ⟨by rfl, ?_⟩) ?_ ?_
      rotate_left
      · intro w'
        go_simp
        with_reducible rfl
      rotate_left
      · simp only [Act.put, List.setIfInBounds_toArray, List.set_cons_zero, List.set_cons_succ]
        rfl
      refine pure_ (i := 5) (N := some 22) (v := ?_) (a' := ?_) #[true, true, true, false, true, true, false, false, false, false] rfl rfl (by kernel_rfl) (fun _ _ _ h => h) (Or.inl ⟨by rfl, ?_⟩) ?_ ?_
      rotate_left
      · intro w'
        go_simp
        with_reducible rfl
      rotate_left
      · simp only [Act.put, List.setIfInBounds_toArray, List.set_cons_zero, List.set_cons_succ]
        rfl
      refine pure_ (i := 6) (N := some 23) (v := ?_) (a' := ?_) #[true, true, true, false, true, true, true, false, false, false] rfl rfl (by kernel_rfl) (fun _ _ _ h => h) (Or.inl ⟨by rfl, ?_⟩) ?_ ?_
      rotate_left
      · intro w'
        go_simp
        with_reducible rfl
      rotate_left
      · simp only [Act.put, List.setIfInBounds_toArray, List.set_cons_zero, List.set_cons_succ]
        rfl
      refine take_ (i := 3) (N := some 20) (v := ?_) (a' := ?_) #[true, true, true, true, true, true, true, false, false, false] rfl rfl (by kernel_rfl) (fun _ _ _ h => h) (Or.inl ⟨by rfl, ?_⟩) hHeld ?_ ?_
      rotate_left
      · rintro w' ⟨s0, s1, s2, s3, s4, s5, s6, s7, s8, s9⟩
        go_simp
        with_reducible rfl
      rotate_left
      · simp only [Act.put, List.setIfInBounds_toArray, List.set_cons_zero, List.set_cons_succ]
        rfl
      refine take_ (i := 7) (N := some 24) (v := ?_) (a' := ?_) #[true, true, true, true, true, true, true, true, false, false] rfl rfl (by kernel_rfl) (fun _ _ _ h => h) (Or.inl ⟨by rfl, ?_⟩) hHeld ?_ ?_
      rotate_left
      · rintro w' ⟨s0, s1, s2, s3, s4, s5, s6, s7, s8, s9⟩
        go_simp
        with_reducible rfl
      rotate_left
      · simp only [Act.put, List.setIfInBounds_toArray, List.set_cons_zero, List.set_cons_succ]
        rfl
      refine one_ (i := 8) (N := some 25) #[true, true, true, true, true, true, true, true, true, false] rfl rfl (by kernel_rfl) (by decide) (fun K hK => ?_)
      refine goes_ Try.func94 (by kernel_rfl) rfl #[.agg #[.string (rd_T92 l x5).f0, .slice E1 (rd_T92 l x5).f1.length e1, .int .i64 (rd_T92 l x5).f2, .slice E3 (rd_T92 l x5).f3.length e3, .slice E4 (rd_T92 l x5).f4.length e4], .agg #[.string (rd_T92 l x5).f0, .slice F1 (rd_T92 l x5).f1.length f1, .int .i64 (rd_T92 l x5).f2, .slice F3 (rd_T92 l x5).f3.length f3, .slice F4 (rd_T92 l x5).f4.length f4]] (by rfl) rfl rfl (by (try simp only [List.map_toArray, List.map_cons, List.map_nil]); rfl) ?_
      refine (sameNode_true (rd_T92 l x5) _ _ _ (k92.K_below (pw_below_drewN HB.out 1) KA.out) (k92.K_below (pw_below_drewN HB.out 1) KB.out)).mono ?_
      rintro e W3 ⟨rfl, hb⟩
      refine ⟨_, rfl, ?_⟩
      obtain ⟨s0, s1, s2, s3, s4, s5, s6, s7, s8, s9⟩ := hHeld
      have HB3 := Aside0.mk (below_then (below_drew HB.out) (below_drew HB.out).size hb)
      refine hK.out _ _ ⟨((hb.cell (World.block_lt_of_cell? _ _ s0)).trans s0), ((hb.cell (World.block_lt_of_cell? _ _ s1)).trans s1), ((hb.cell (World.block_lt_of_cell? _ _ s2)).trans s2), ((hb.cell (World.block_lt_of_cell? _ _ s3)).trans s3), ((hb.cell (World.block_lt_of_cell? _ _ s4)).trans s4), ((hb.cell (World.block_lt_of_cell? _ _ s5)).trans s5), ((hb.cell (World.block_lt_of_cell? _ _ s6)).trans s6), ((hb.cell (World.block_lt_of_cell? _ _ s7)).trans s7), ((hb.cell (World.block_lt_of_cell? _ _ s8)).trans s8), ((hb.cell (World.block_lt_of_cell? _ _ s9)).trans s9)⟩ (fun hHeld => ?_)
      clear hK K
      refine norm_ (a' := ?_) ?_ ?_
      rotate_left
      · show Act.put _ (some 25) _ = _
        simp only [Act.put, List.setIfInBounds_toArray, List.set_cons_zero, List.set_cons_succ]
        rfl
      refine pure_ (i := 9) (N := some 26) (v := ?_) (a' := ?_) #[true, true, true, true, true, true, true, true, true, true] rfl rfl (by kernel_rfl) (fun _ _ _ h => h) (Or.inl ⟨by rfl, ?_⟩) ?_ ?_
      rotate_left
      · intro w'
        go_simp
        with_reducible rfl
      rotate_left
      · simp only [Act.put, List.setIfInBounds_toArray, List.set_cons_zero, List.set_cons_succ]
        rfl
      refine done_ (by kernel_rfl) ?_
      go_wp2
      go_roundg (l.length - (x5.toNat + 1))
      case measure => omega
      case rel => exact ⟨x5 + 1, by omega, by omega, by omega, by first | rfl | go_num, HB3⟩
    · go_wp2
      go_ret
      exact ⟨by first | rfl | simp, HB.out⟩
end Go.Proofs.Ytpalbpakeokimaa.PK
