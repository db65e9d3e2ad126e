/- tinder: a part of the proof, joined and pruned by wip/tools/prune.py out of: Gs2 -/
import Derived.Test.YtpalbpakeokimaaFGs
namespace Go.Proofs.Ytpalbpakeokimaa.PK
set_option linter.unusedVariables false
set_option linter.unusedSimpArgs false
open Go.RowKit Go.Proofs.YtpalbpakeokimaaW.PrintWords Go.Proofs.YtpalbpakeokimaaW.PrintLast Go.Proofs.YtpalbpakeokimaaW.PrintMore
theorem same08b (l : List S92) (A : Option Addr) (c : Nat) (B : Option Addr) (d : Nat) (w W : World) (hA : Kd.C k92 w A l.length l) (hc : l.length ≤ c) (hB : Kd.C k92 w B l.length l) (hd : l.length ≤ d) (hb : Below w.heap.size w W) :
    Calls Try.prog 82 #[.slice A l.length c, .slice B l.length d] W fun e w' => e = .returned (.bool true) ∧ Below W.heap.size W w' :=
  same08_true l A c B d W W (Kd.C_below hA hb) hc (Kd.C_below hB hb) hd (Below.refl _ _)
set_option maxHeartbeats 8000000 in
set_option maxRecDepth 100000 in
theorem sameBut_true (l0 : List Int) (l1 : List Int) (l2 : List S45) (l3 : List Int) (l5 : List S92) (l7 : List S80) (a4 a6 a8 : Int) (a9 : ByteArray) (A0 : Option Addr) (c0 : Nat) (B0 : Option Addr) (d0 : Nat) (A1 : Option Addr) (c1 : Nat) (B1 : Option Addr) (d1 : Nat) (A2 : Option Addr) (c2 : Nat) (B2 : Option Addr) (d2 : Nat) (A3 : Option Addr) (c3 : Nat) (B3 : Option Addr) (d3 : Nat) (A5 : Option Addr) (c5 : Nat) (B5 : Option Addr) (d5 : Nat) (A7 : Option Addr) (c7 : Nat) (B7 : Option Addr) (d7 : Nat) (w : World) (hA0 : Kd.C (Kd.int .u32) w A0 l0.length l0) (hc0 : l0.length ≤ c0) (hB0 : Kd.C (Kd.int .u32) w B0 l0.length l0) (hd0 : l0.length ≤ d0) (hA1 : Kd.C (Kd.int .u8) w A1 l1.length l1) (hc1 : l1.length ≤ c1) (hB1 : Kd.C (Kd.int .u8) w B1 l1.length l1) (hd1 : l1.length ≤ d1) (hA2 : Kd.C k45 w A2 l2.length l2) (hc2 : l2.length ≤ c2) (hB2 : Kd.C k45 w B2 l2.length l2) (hd2 : l2.length ≤ d2) (hA3 : Kd.C (Kd.int .i64) w A3 l3.length l3) (hc3 : l3.length ≤ c3) (hB3 : Kd.C (Kd.int .i64) w B3 l3.length l3) (hd3 : l3.length ≤ d3) (hA5 : Kd.C k92 w A5 l5.length l5) (hc5 : l5.length ≤ c5) (hB5 : Kd.C k92 w B5 l5.length l5) (hd5 : l5.length ≤ d5) (hA7 : Kd.C k80 w A7 l7.length l7) (hc7 : l7.length ≤ c7) (hB7 : Kd.C k80 w B7 l7.length l7) (hd7 : l7.length ≤ d7) :
    Calls Try.prog 47 #[.agg #[.slice A0 l0.length c0, .slice A1 l1.length c1, .slice A2 l2.length c2, .slice A3 l3.length c3, .int .u32 a4, .slice A5 l5.length c5, .int .i64 a6, .slice A7 l7.length c7, .int .i64 a8, .string a9], .agg #[.slice B0 l0.length d0, .slice B1 l1.length d1, .slice B2 l2.length d2, .slice B3 l3.length d3, .int .u32 a4, .slice B5 l5.length d5, .int .i64 a6, .slice B7 l7.length d7, .int .i64 a8, .string a9]] w fun e w' => e = .returned (.bool true) ∧ Below w.heap.size w w' := by
  have hm2 := hA2.2.1
  have hm7 := hA7.2.1
  have G0 := Aside0.mk (fun W hW => same80b l0 A0 c0 B0 d0 w W hA0 hc0 hB0 hd0 hW)
  have G1 := Aside0.mk (fun W hW => same81b l1 A1 c1 B1 d1 w W hA1 hc1 hB1 hd1 hW)
  have G5 := Aside0.mk (fun W hW => same08b l5 A5 c5 B5 d5 w W hA5 hc5 hB5 hd5 hW)
  have GA2 := Aside0.mk hA2
  have GB2 := Aside0.mk hB2
  have GA7 := Aside0.mk hA7
  have GB7 := Aside0.mk hB7
  clear hA0 hc0 hB0 hd0 hA1 hc1 hB1 hd1 hA2 hc2 hB2 hd2 hA3 hc3 hB3 hd3 hA5 hc5 hB5 hd5 hA7 hc7 hB7 hd7
  have L0 := below_alloc (below_alloc (Below.refl w.heap.size w) (.cells #[.slice A0 l0.length c0, .slice A1 l1.length c1, .slice A2 l2.length c2, .slice A3 l3.length c3, .int .u32 a4, .slice A5 l5.length c5, .int .i64 a6, .slice A7 l7.length c7, .int .i64 a8, .string a9] 35)) (.cells #[.slice B0 l0.length d0, .slice B1 l1.length d1, .slice B2 l2.length d2, .slice B3 l3.length d3, .int .u32 a4, .slice B5 l5.length d5, .int .i64 a6, .slice B7 l7.length d7, .int .i64 a8, .string a9] 35)
  have N1 := blk_new (w.alloc (.cells #[.slice A0 l0.length c0, .slice A1 l1.length c1, .slice A2 l2.length c2, .slice A3 l3.length c3, .int .u32 a4, .slice A5 l5.length c5, .int .i64 a6, .slice A7 l7.length c7, .int .i64 a8, .string a9] 35)) (.cells #[.slice B0 l0.length d0, .slice B1 l1.length d1, .slice B2 l2.length d2, .slice B3 l3.length d3, .int .u32 a4, .slice B5 l5.length d5, .int .i64 a6, .slice B7 l7.length d7, .int .i64 a8, .string a9] 35)
  have hz0 : (w.alloc (.cells #[.slice A0 l0.length c0, .slice A1 l1.length c1, .slice A2 l2.length c2, .slice A3 l3.length c3, .int .u32 a4, .slice A5 l5.length c5, .int .i64 a6, .slice A7 l7.length c7, .int .i64 a8, .string a9] 35)).heap.size = w.heap.size + 1 := by simp
  have N0 := ((below_alloc (Below.refl (w.alloc (.cells #[.slice A0 l0.length c0, .slice A1 l1.length c1, .slice A2 l2.length c2, .slice A3 l3.length c3, .int .u32 a4, .slice A5 l5.length c5, .int .i64 a6, .slice A7 l7.length c7, .int .i64 a8, .string a9] 35)).heap.size (w.alloc (.cells #[.slice A0 l0.length c0, .slice A1 l1.length c1, .slice A2 l2.length c2, .slice A3 l3.length c3, .int .u32 a4, .slice A5 l5.length c5, .int .i64 a6, .slice A7 l7.length c7, .int .i64 a8, .string a9] 35))) (.cells #[.slice B0 l0.length d0, .slice B1 l1.length d1, .slice B2 l2.length d2, .slice B3 l3.length d3, .int .u32 a4, .slice B5 l5.length d5, .int .i64 a6, .slice B7 l7.length d7, .int .i64 a8, .string a9] 35)).block _ (blk_lt (blk_new w (.cells #[.slice A0 l0.length c0, .slice A1 l1.length c1, .slice A2 l2.length c2, .slice A3 l3.length c3, .int .u32 a4, .slice A5 l5.length c5, .int .i64 a6, .slice A7 l7.length c7, .int .i64 a8, .string a9] 35)))).trans (blk_new w (.cells #[.slice A0 l0.length c0, .slice A1 l1.length c1, .slice A2 l2.length c2, .slice A3 l3.length c3, .int .u32 a4, .slice A5 l5.length c5, .int .i64 a6, .slice A7 l7.length c7, .int .i64 a8, .string a9] 35))
  rw [hz0] at N1
  have HB := Aside0.mk L0
  have BA := Aside0.mk N0
  have BB := Aside0.mk N1
  clear L0 N0 N1 hz0
  go_enter Try.func47, Try.ntmps47
  go_wp2_with (first | (go_at_call 80; refine (G0.out _ HB.out).mono ?_; rintro e wF ⟨rfl, hbF⟩; have B2 := Aside0.mk ((hbF.block _ (blk_lt BA.out)).trans BA.out); have D2 := Aside0.mk ((hbF.block _ (blk_lt BB.out)).trans BB.out); have H2 := Aside0.mk (below_then HB.out HB.out.size hbF); clear BA BB HB hbF; have BA := B2; have BB := D2; have HB := H2; clear B2 D2 H2; (try clear ka0 kb0 ka1 kb1 ka2 kb2 ka3 kb3 ka4 kb4 ka5 kb5 ka6 kb6 ka7 kb7 ka8 kb8 ka9 kb9); have ka0 := cell_of_row _ _ 0 _ _ _ BA.out; have ka1 := cell_of_row _ _ 1 _ _ _ BA.out; have ka2 := cell_of_row _ _ 2 _ _ _ BA.out; have ka3 := cell_of_row _ _ 3 _ _ _ BA.out; have ka4 := cell_of_row _ _ 4 _ _ _ BA.out; have ka5 := cell_of_row _ _ 5 _ _ _ BA.out; have ka6 := cell_of_row _ _ 6 _ _ _ BA.out; have ka7 := cell_of_row _ _ 7 _ _ _ BA.out; have ka8 := cell_of_row _ _ 8 _ _ _ BA.out; have ka9 := cell_of_row _ _ 9 _ _ _ BA.out; have kb0 := cell_of_row _ _ 0 _ _ _ BB.out; have kb1 := cell_of_row _ _ 1 _ _ _ BB.out; have kb2 := cell_of_row _ _ 2 _ _ _ BB.out; have kb3 := cell_of_row _ _ 3 _ _ _ BB.out; have kb4 := cell_of_row _ _ 4 _ _ _ BB.out; have kb5 := cell_of_row _ _ 5 _ _ _ BB.out; have kb6 := cell_of_row _ _ 6 _ _ _ BB.out; have kb7 := cell_of_row _ _ 7 _ _ _ BB.out; have kb8 := cell_of_row _ _ 8 _ _ _ BB.out; have kb9 := cell_of_row _ _ 9 _ _ _ BB.out; simp only [List.getElem?_toArray, List.getElem?_cons_succ, List.getElem?_cons_zero] at ka0 kb0 ka1 kb1 ka2 kb2 ka3 kb3 ka4 kb4 ka5 kb5 ka6 kb6 ka7 kb7 ka8 kb8 ka9 kb9) | (go_at_call 81; refine (G1.out _ HB.out).mono ?_; rintro e wF ⟨rfl, hbF⟩; have B2 := Aside0.mk ((hbF.block _ (blk_lt BA.out)).trans BA.out); have D2 := Aside0.mk ((hbF.block _ (blk_lt BB.out)).trans BB.out); have H2 := Aside0.mk (below_then HB.out HB.out.size hbF); clear BA BB HB hbF; have BA := B2; have BB := D2; have HB := H2; clear B2 D2 H2; (try clear ka0 kb0 ka1 kb1 ka2 kb2 ka3 kb3 ka4 kb4 ka5 kb5 ka6 kb6 ka7 kb7 ka8 kb8 ka9 kb9); have ka0 := cell_of_row _ _ 0 _ _ _ BA.out; have ka1 := cell_of_row _ _ 1 _ _ _ BA.out; have ka2 := cell_of_row _ _ 2 _ _ _ BA.out; have ka3 := cell_of_row _ _ 3 _ _ _ BA.out; have ka4 := cell_of_row _ _ 4 _ _ _ BA.out; have ka5 := cell_of_row _ _ 5 _ _ _ BA.out; have ka6 := cell_of_row _ _ 6 _ _ _ BA.out; have ka7 := cell_of_row _ _ 7 _ _ _ BA.out; have ka8 := cell_of_row _ _ 8 _ _ _ BA.out; have ka9 := cell_of_row _ _ 9 _ _ _ BA.out; have kb0 := cell_of_row _ _ 0 _ _ _ BB.out; have kb1 := cell_of_row _ _ 1 _ _ _ BB.out; have kb2 := cell_of_row _ _ 2 _ _ _ BB.out; have kb3 := cell_of_row _ _ 3 _ _ _ BB.out; have kb4 := cell_of_row _ _ 4 _ _ _ BB.out; have kb5 := cell_of_row _ _ 5 _ _ _ BB.out; have kb6 := cell_of_row _ _ 6 _ _ _ BB.out; have kb7 := cell_of_row _ _ 7 _ _ _ BB.out; have kb8 := cell_of_row _ _ 8 _ _ _ BB.out; have kb9 := cell_of_row _ _ 9 _ _ _ BB.out; simp only [List.getElem?_toArray, List.getElem?_cons_succ, List.getElem?_cons_zero] at ka0 kb0 ka1 kb1 ka2 kb2 ka3 kb3 ka4 kb4 ka5 kb5 ka6 kb6 ka7 kb7 ka8 kb8 ka9 kb9) | (go_at_call 82; refine (G5.out _ HB.out).mono ?_; rintro e wF ⟨rfl, hbF⟩; have B2 := Aside0.mk ((hbF.block _ (blk_lt BA.out)).trans BA.out); have D2 := Aside0.mk ((hbF.block _ (blk_lt BB.out)).trans BB.out); have H2 := Aside0.mk (below_then HB.out HB.out.size hbF); clear BA BB HB hbF; have BA := B2; have BB := D2; have HB := H2; clear B2 D2 H2; (try clear ka0 kb0 ka1 kb1 ka2 kb2 ka3 kb3 ka4 kb4 ka5 kb5 ka6 kb6 ka7 kb7 ka8 kb8 ka9 kb9); have ka0 := cell_of_row _ _ 0 _ _ _ BA.out; have ka1 := cell_of_row _ _ 1 _ _ _ BA.out; have ka2 := cell_of_row _ _ 2 _ _ _ BA.out; have ka3 := cell_of_row _ _ 3 _ _ _ BA.out; have ka4 := cell_of_row _ _ 4 _ _ _ BA.out; have ka5 := cell_of_row _ _ 5 _ _ _ BA.out; have ka6 := cell_of_row _ _ 6 _ _ _ BA.out; have ka7 := cell_of_row _ _ 7 _ _ _ BA.out; have ka8 := cell_of_row _ _ 8 _ _ _ BA.out; have ka9 := cell_of_row _ _ 9 _ _ _ BA.out; have kb0 := cell_of_row _ _ 0 _ _ _ BB.out; have kb1 := cell_of_row _ _ 1 _ _ _ BB.out; have kb2 := cell_of_row _ _ 2 _ _ _ BB.out; have kb3 := cell_of_row _ _ 3 _ _ _ BB.out; have kb4 := cell_of_row _ _ 4 _ _ _ BB.out; have kb5 := cell_of_row _ _ 5 _ _ _ BB.out; have kb6 := cell_of_row _ _ 6 _ _ _ BB.out; have kb7 := cell_of_row _ _ 7 _ _ _ BB.out; have kb8 := cell_of_row _ _ 8 _ _ _ BB.out; have kb9 := cell_of_row _ _ 9 _ _ _ BB.out; simp only [List.getElem?_toArray, List.getElem?_cons_succ, List.getElem?_cons_zero] at ka0 kb0 ka1 kb1 ka2 kb2 ka3 kb3 ka4 kb4 ka5 kb5 ka6 kb6 ka7 kb7 ka8 kb8 ka9 kb9))
  go_loopg [5] l2.length (fun gg v5 wr => ∃ x5 : Int, 0 ≤ x5 ∧ x5 ≤ (l2.length : Int) ∧ l2.length - x5.toNat ≤ gg ∧ v5 = .int .i64 x5 ∧ Aside0 (wr.heap[w.heap.size]? = some (.cells #[.slice A0 l0.length c0, .slice A1 l1.length c1, .slice A2 l2.length c2, .slice A3 l3.length c3, .int .u32 a4, .slice A5 l5.length c5, .int .i64 a6, .slice A7 l7.length c7, .int .i64 a8, .string a9] 35 (0, 0))) ∧ Aside0 (wr.heap[w.heap.size + 1]? = some (.cells #[.slice B0 l0.length d0, .slice B1 l1.length d1, .slice B2 l2.length d2, .slice B3 l3.length d3, .int .u32 a4, .slice B5 l5.length d5, .int .i64 a6, .slice B7 l7.length d7, .int .i64 a8, .string a9] 35 (0, 0))) ∧ Aside0 (Below w.heap.size w wr))
  case atStart => exact ⟨0, by omega, by omega, by omega, rfl, BA, BB, HB⟩
  case round =>
    clear HB BA BB
    (try clear ka0 kb0 ka1 kb1 ka2 kb2 ka3 kb3 ka4 kb4 ka5 kb5 ka6 kb6 ka7 kb7 ka8 kb8 ka9 kb9)
    obtain ⟨x5, h0, hle, hgg, rfl, BA, BB, HB⟩ := hrel
    have ka0 := cell_of_row _ _ 0 _ _ _ BA.out; have ka1 := cell_of_row _ _ 1 _ _ _ BA.out; have ka2 := cell_of_row _ _ 2 _ _ _ BA.out; have ka3 := cell_of_row _ _ 3 _ _ _ BA.out; have ka4 := cell_of_row _ _ 4 _ _ _ BA.out; have ka5 := cell_of_row _ _ 5 _ _ _ BA.out; have ka6 := cell_of_row _ _ 6 _ _ _ BA.out; have ka7 := cell_of_row _ _ 7 _ _ _ BA.out; have ka8 := cell_of_row _ _ 8 _ _ _ BA.out; have ka9 := cell_of_row _ _ 9 _ _ _ BA.out; have kb0 := cell_of_row _ _ 0 _ _ _ BB.out; have kb1 := cell_of_row _ _ 1 _ _ _ BB.out; have kb2 := cell_of_row _ _ 2 _ _ _ BB.out; have kb3 := cell_of_row _ _ 3 _ _ _ BB.out; have kb4 := cell_of_row _ _ 4 _ _ _ BB.out; have kb5 := cell_of_row _ _ 5 _ _ _ BB.out; have kb6 := cell_of_row _ _ 6 _ _ _ BB.out; have kb7 := cell_of_row _ _ 7 _ _ _ BB.out; have kb8 := cell_of_row _ _ 8 _ _ _ BB.out; have kb9 := cell_of_row _ _ 9 _ _ _ BB.out; simp only [List.getElem?_toArray, List.getElem?_cons_succ, List.getElem?_cons_zero] at ka0 kb0 ka1 kb1 ka2 kb2 ka3 kb3 ka4 kb4 ka5 kb5 ka6 kb6 ka7 kb7 ka8 kb8 ka9 kb9
    by_cases hlt : x5 < (l2.length : Int)
    · obtain ⟨ad, E4, e4, e, z0, z1, z2, z3, z4, i4, g4⟩ := at_T45 GA2.out x5 h0 hlt
      cases e
      obtain ⟨bd, F4, f4, e, q0, q1, q2, q3, q4, j4, k4⟩ := at_T45 GB2.out x5 h0 hlt
      cases e
      have KA := Aside0.mk (k45_mk w (rd_T45 l2 x5) i4 g4)
      have KB := Aside0.mk (k45_mk w (rd_T45 l2 x5) j4 k4)
      clear i4 g4 j4 k4
      replace z0 := (HB.out.cell (World.block_lt_of_cell? w _ z0)).trans z0
      replace z1 := (HB.out.cell (World.block_lt_of_cell? w _ z1)).trans z1
      replace z2 := (HB.out.cell (World.block_lt_of_cell? w _ z2)).trans z2
      replace z3 := (HB.out.cell (World.block_lt_of_cell? w _ z3)).trans z3
      replace z4 := (HB.out.cell (World.block_lt_of_cell? w _ z4)).trans z4
      replace q0 := (HB.out.cell (World.block_lt_of_cell? w _ q0)).trans q0
      replace q1 := (HB.out.cell (World.block_lt_of_cell? w _ q1)).trans q1
      replace q2 := (HB.out.cell (World.block_lt_of_cell? w _ q2)).trans q2
      replace q3 := (HB.out.cell (World.block_lt_of_cell? w _ q3)).trans q3
      replace q4 := (HB.out.cell (World.block_lt_of_cell? w _ q4)).trans q4
      have p0 := eq_true h0
      have p1 := eq_true hlt
      have hw1 : wrap64 (x5 + 1) = x5 + 1 := by unfold wrap64; omega
      go_wp2
      refine start_ (n := 12) (S := fun w' => w'.cell? ⟨w.heap.size, 2, none⟩ = some (.slice (some ad) l2.length c2) ∧ w'.cell? ⟨w.heap.size + 1, 2, none⟩ = some (.slice (some bd) l2.length d2) ∧ w'.cell? (ad.add (x5.toNat * 5)) = some (.string (rd_T45 l2 x5).f0) ∧ w'.cell? ⟨(ad.add (x5.toNat * 5)).block, (ad.add (x5.toNat * 5)).off + 1, none⟩ = some (.int .i64 (rd_T45 l2 x5).f1) ∧ w'.cell? ⟨(ad.add (x5.toNat * 5)).block, (ad.add (x5.toNat * 5)).off + 2, none⟩ = some (.int .i64 (rd_T45 l2 x5).f2) ∧ w'.cell? ⟨(ad.add (x5.toNat * 5)).block, (ad.add (x5.toNat * 5)).off + 3, none⟩ = some (.int .u32 (rd_T45 l2 x5).f3) ∧ w'.cell? ⟨(ad.add (x5.toNat * 5)).block, (ad.add (x5.toNat * 5)).off + 4, none⟩ = some (.slice E4 (rd_T45 l2 x5).f4.length e4) ∧ w'.cell? (bd.add (x5.toNat * 5)) = some (.string (rd_T45 l2 x5).f0) ∧ w'.cell? ⟨(bd.add (x5.toNat * 5)).block, (bd.add (x5.toNat * 5)).off + 1, none⟩ = some (.int .i64 (rd_T45 l2 x5).f1) ∧ w'.cell? ⟨(bd.add (x5.toNat * 5)).block, (bd.add (x5.toNat * 5)).off + 2, none⟩ = some (.int .i64 (rd_T45 l2 x5).f2) ∧ w'.cell? ⟨(bd.add (x5.toNat * 5)).block, (bd.add (x5.toNat * 5)).off + 3, none⟩ = some (.int .u32 (rd_T45 l2 x5).f3) ∧ w'.cell? ⟨(bd.add (x5.toNat * 5)).block, (bd.add (x5.toNat * 5)).off + 4, none⟩ = some (.slice F4 (rd_T45 l2 x5).f4.length f4)) (ds := []) #[false, false, false, false, false, false, false, false, false, false, false, false] (by kernel_rfl) rfl rfl ⟨ka2, kb2, z0, z1, z2, z3, z4, q0, q1, q2, q3, q4⟩ (fun hHeld => ?_)
      refine pure_ (i := 0) (N := some 82) (v := ?_) (a' := ?_) #[true, false, false, false, false, false, false, false, false, false, false, false] rfl rfl (by kernel_rfl) (fun _ _ _ h => h) (Or.inl ⟨by rfl, ?_⟩) ?_ ?_
      rotate_left
      · intro w'
        go_simp
        with_reducible rfl
      rotate_left
      · simp only [Act.put, List.setIfInBounds_toArray, List.set_cons_zero, List.set_cons_succ]
        rfl
      refine pure_ (i := 2) (N := some 84) (v := ?_) (a' := ?_) #[true, false, true, false, false, false, false, false, false, false, false, false] rfl rfl (by kernel_rfl) (fun _ _ _ h => h) (Or.inl ⟨by rfl, ?_⟩) ?_ ?_
      rotate_left
      · intro w'
        go_simp
        with_reducible rfl
      rotate_left
      · simp only [Act.put, List.setIfInBounds_toArray, List.set_cons_zero, List.set_cons_succ]
        rfl
      refine pure_ (i := 5) (N := some 87) (v := ?_) (a' := ?_) #[true, false, true, false, false, true, false, false, false, false, false, false] rfl rfl (by kernel_rfl) (fun _ _ _ h => h) (Or.inl ⟨by rfl, ?_⟩) ?_ ?_
      rotate_left
      · intro w'
        go_simp
        with_reducible rfl
      rotate_left
      · simp only [Act.put, List.setIfInBounds_toArray, List.set_cons_zero, List.set_cons_succ]
        rfl
      refine pure_ (i := 7) (N := some 89) (v := ?_) (a' := ?_) #[true, false, true, false, false, true, false, true, false, false, false, false] rfl rfl (by kernel_rfl) (fun _ _ _ h => h) (Or.inl ⟨by rfl, ?_⟩) ?_ ?_
      rotate_left
      · intro w'
        go_simp
        with_reducible rfl
      rotate_left
      · simp only [Act.put, List.setIfInBounds_toArray, List.set_cons_zero, List.set_cons_succ]
        rfl
      refine take_ (i := 1) (N := some 83) (v := ?_) (a' := ?_) #[true, true, true, false, false, true, false, true, false, false, false, false] rfl rfl (by kernel_rfl) (fun _ _ _ h => h) (Or.inl ⟨by rfl, ?_⟩) hHeld ?_ ?_
      rotate_left
      · rintro w' ⟨s0, s1, s2, s3, s4, s5, s6, s7, s8, s9, s10, s11⟩
        go_simp
        with_reducible rfl
      rotate_left
      · simp only [Act.put, List.setIfInBounds_toArray, List.set_cons_zero, List.set_cons_succ]
        rfl
      refine pure_ (i := 3) (N := some 85) (v := ?_) (a' := ?_) #[true, true, true, true, false, true, false, true, false, false, false, false] rfl rfl (by kernel_rfl) (fun _ _ _ h => h) (Or.inl ⟨by rfl, ?_⟩) ?_ ?_
      rotate_left
      · intro w'
        go_simp
        with_reducible rfl
      rotate_left
      · simp only [Act.put, List.setIfInBounds_toArray, List.set_cons_zero, List.set_cons_succ]
        rfl
      refine take_ (i := 4) (N := some 86) (v := ?_) (a' := ?_) #[true, true, true, true, true, true, false, true, false, false, false, false] rfl rfl (by kernel_rfl) (fun _ _ _ h => h) (Or.inl ⟨by rfl, ?_⟩) hHeld ?_ ?_
      rotate_left
      · rintro w' ⟨s0, s1, s2, s3, s4, s5, s6, s7, s8, s9, s10, s11⟩
        go_simp
        with_reducible rfl
      rotate_left
      · simp only [Act.put, List.setIfInBounds_toArray, List.set_cons_zero, List.set_cons_succ]
        rfl
      refine take_ (i := 6) (N := some 88) (v := ?_) (a' := ?_) #[true, true, true, true, true, true, true, true, false, false, false, false] rfl rfl (by kernel_rfl) (fun _ _ _ h => h) (Or.inl ⟨by rfl, ?_⟩) hHeld ?_ ?_
      rotate_left
      · rintro w' ⟨s0, s1, s2, s3, s4, s5, s6, s7, s8, s9, s10, s11⟩
        go_simp
        with_reducible rfl
      rotate_left
      · simp only [Act.put, List.setIfInBounds_toArray, List.set_cons_zero, List.set_cons_succ]
        rfl
      refine pure_ (i := 8) (N := some 90) (v := ?_) (a' := ?_) #[true, true, true, true, true, true, true, true, true, false, false, false] rfl rfl (by kernel_rfl) (fun _ _ _ h => h) (Or.inl ⟨by rfl, ?_⟩) ?_ ?_
      rotate_left
      · intro w'
        go_simp
        with_reducible rfl
      rotate_left
      · simp only [Act.put, List.setIfInBounds_toArray, List.set_cons_zero, List.set_cons_succ]
        rfl
      refine take_ (i := 9) (N := some 91) (v := ?_) (a' := ?_) #[true, true, true, true, true, true, true, true, true, true, false, false] rfl rfl (by kernel_rfl) (fun _ _ _ h => h) (Or.inl ⟨by rfl, ?_⟩) hHeld ?_ ?_
      rotate_left
      · rintro w' ⟨s0, s1, s2, s3, s4, s5, s6, s7, s8, s9, s10, s11⟩
        go_simp
        with_reducible rfl
      rotate_left
      · simp only [Act.put, List.setIfInBounds_toArray, List.set_cons_zero, List.set_cons_succ]
        rfl
      refine one_ (i := 10) (N := some 92) #[true, true, true, true, true, true, true, true, true, true, true, false] rfl rfl (by kernel_rfl) (by decide) (fun K hK => ?_)
      refine goes_ Try.func45 (by kernel_rfl) rfl #[.agg #[.string (rd_T45 l2 x5).f0, .int .i64 (rd_T45 l2 x5).f1, .int .i64 (rd_T45 l2 x5).f2, .int .u32 (rd_T45 l2 x5).f3, .slice E4 (rd_T45 l2 x5).f4.length e4], .agg #[.string (rd_T45 l2 x5).f0, .int .i64 (rd_T45 l2 x5).f1, .int .i64 (rd_T45 l2 x5).f2, .int .u32 (rd_T45 l2 x5).f3, .slice F4 (rd_T45 l2 x5).f4.length f4]] (by rfl) rfl rfl (by (try simp only [List.map_toArray, List.map_cons, List.map_nil]); rfl) ?_
      refine (sameWord_true (rd_T45 l2 x5) _ _ _ (k45.K_below (pw_below_drewN HB.out 1) KA.out) (k45.K_below (pw_below_drewN HB.out 1) KB.out)).mono ?_
      rintro e W3 ⟨rfl, hb⟩
      refine ⟨_, rfl, ?_⟩
      obtain ⟨s0, s1, s2, s3, s4, s5, s6, s7, s8, s9, s10, s11⟩ := hHeld
      have HB3 := Aside0.mk (below_then (below_drew HB.out) (below_drew HB.out).size hb)
      have BA3 := Aside0.mk ((hb.block _ (blk_lt (show wr.drew.heap[w.heap.size]? = _ from BA.out))).trans BA.out)
      have BB3 := Aside0.mk ((hb.block _ (blk_lt (show wr.drew.heap[w.heap.size + 1]? = _ from BB.out))).trans BB.out)
      refine hK.out _ _ ⟨((hb.cell (World.block_lt_of_cell? _ _ s0)).trans s0), ((hb.cell (World.block_lt_of_cell? _ _ s1)).trans s1), ((hb.cell (World.block_lt_of_cell? _ _ s2)).trans s2), ((hb.cell (World.block_lt_of_cell? _ _ s3)).trans s3), ((hb.cell (World.block_lt_of_cell? _ _ s4)).trans s4), ((hb.cell (World.block_lt_of_cell? _ _ s5)).trans s5), ((hb.cell (World.block_lt_of_cell? _ _ s6)).trans s6), ((hb.cell (World.block_lt_of_cell? _ _ s7)).trans s7), ((hb.cell (World.block_lt_of_cell? _ _ s8)).trans s8), ((hb.cell (World.block_lt_of_cell? _ _ s9)).trans s9), ((hb.cell (World.block_lt_of_cell? _ _ s10)).trans s10), ((hb.cell (World.block_lt_of_cell? _ _ s11)).trans s11)⟩ (fun hHeld => ?_)
      clear hK K
      refine norm_ (a' := ?_) ?_ ?_
      rotate_left
      · show Act.put _ (some 92) _ = _
        simp only [Act.put, List.setIfInBounds_toArray, List.set_cons_zero, List.set_cons_succ]
        rfl
      refine pure_ (i := 11) (N := some 93) (v := ?_) (a' := ?_) #[true, true, true, true, true, true, true, true, true, true, true, true] rfl rfl (by kernel_rfl) (fun _ _ _ h => h) (Or.inl ⟨by rfl, ?_⟩) ?_ ?_
      rotate_left
      · intro w'
        go_simp
        with_reducible rfl
      rotate_left
      · simp only [Act.put, List.setIfInBounds_toArray, List.set_cons_zero, List.set_cons_succ]
        rfl
      refine done_ (by kernel_rfl) ?_
      clear hHeld s0
      go_wp2
      go_roundg (l2.length - (x5.toNat + 1))
      case measure => omega
      case rel => exact ⟨x5 + 1, by omega, by omega, by omega, by first | rfl | go_num, BA3, BB3, HB3⟩
    · go_wp2
      go_loopg [6] l7.length (fun gg v5 wr => ∃ x5 : Int, 0 ≤ x5 ∧ x5 ≤ (l7.length : Int) ∧ l7.length - x5.toNat ≤ gg ∧ v5 = .int .i64 x5 ∧ Aside0 (wr.heap[w.heap.size]? = some (.cells #[.slice A0 l0.length c0, .slice A1 l1.length c1, .slice A2 l2.length c2, .slice A3 l3.length c3, .int .u32 a4, .slice A5 l5.length c5, .int .i64 a6, .slice A7 l7.length c7, .int .i64 a8, .string a9] 35 (0, 0))) ∧ Aside0 (wr.heap[w.heap.size + 1]? = some (.cells #[.slice B0 l0.length d0, .slice B1 l1.length d1, .slice B2 l2.length d2, .slice B3 l3.length d3, .int .u32 a4, .slice B5 l5.length d5, .int .i64 a6, .slice B7 l7.length d7, .int .i64 a8, .string a9] 35 (0, 0))) ∧ Aside0 (Below w.heap.size w wr))
      case atStart => exact ⟨0, by omega, by omega, by omega, rfl, BA, BB, HB⟩
      case round =>
        clear HB BA BB
        (try clear ka0 kb0 ka1 kb1 ka2 kb2 ka3 kb3 ka4 kb4 ka5 kb5 ka6 kb6 ka7 kb7 ka8 kb8 ka9 kb9)
        obtain ⟨x5, h0, hle, hgg, rfl, BA, BB, HB⟩ := hrel
        have ka0 := cell_of_row _ _ 0 _ _ _ BA.out; have ka1 := cell_of_row _ _ 1 _ _ _ BA.out; have ka2 := cell_of_row _ _ 2 _ _ _ BA.out; have ka3 := cell_of_row _ _ 3 _ _ _ BA.out; have ka4 := cell_of_row _ _ 4 _ _ _ BA.out; have ka5 := cell_of_row _ _ 5 _ _ _ BA.out; have ka6 := cell_of_row _ _ 6 _ _ _ BA.out; have ka7 := cell_of_row _ _ 7 _ _ _ BA.out; have ka8 := cell_of_row _ _ 8 _ _ _ BA.out; have ka9 := cell_of_row _ _ 9 _ _ _ BA.out; have kb0 := cell_of_row _ _ 0 _ _ _ BB.out; have kb1 := cell_of_row _ _ 1 _ _ _ BB.out; have kb2 := cell_of_row _ _ 2 _ _ _ BB.out; have kb3 := cell_of_row _ _ 3 _ _ _ BB.out; have kb4 := cell_of_row _ _ 4 _ _ _ BB.out; have kb5 := cell_of_row _ _ 5 _ _ _ BB.out; have kb6 := cell_of_row _ _ 6 _ _ _ BB.out; have kb7 := cell_of_row _ _ 7 _ _ _ BB.out; have kb8 := cell_of_row _ _ 8 _ _ _ BB.out; have kb9 := cell_of_row _ _ 9 _ _ _ BB.out; simp only [List.getElem?_toArray, List.getElem?_cons_succ, List.getElem?_cons_zero] at ka0 kb0 ka1 kb1 ka2 kb2 ka3 kb3 ka4 kb4 ka5 kb5 ka6 kb6 ka7 kb7 ka8 kb8 ka9 kb9
        by_cases hlt : x5 < (l7.length : Int)
        · obtain ⟨ad, E3, e3, e, z0, z1, z2, z3, i3, g3⟩ := at_T80 GA7.out x5 h0 hlt
          cases e
          obtain ⟨bd, F3, f3, e, q0, q1, q2, q3, j3, k3⟩ := at_T80 GB7.out x5 h0 hlt
          cases e
          have KA := Aside0.mk (k80_mk w (rd_T80 l7 x5) i3 g3)
          have KB := Aside0.mk (k80_mk w (rd_T80 l7 x5) j3 k3)
          clear i3 g3 j3 k3
          replace z0 := (HB.out.cell (World.block_lt_of_cell? w _ z0)).trans z0
          replace z1 := (HB.out.cell (World.block_lt_of_cell? w _ z1)).trans z1
          replace z2 := (HB.out.cell (World.block_lt_of_cell? w _ z2)).trans z2
          replace z3 := (HB.out.cell (World.block_lt_of_cell? w _ z3)).trans z3
          replace q0 := (HB.out.cell (World.block_lt_of_cell? w _ q0)).trans q0
          replace q1 := (HB.out.cell (World.block_lt_of_cell? w _ q1)).trans q1
          replace q2 := (HB.out.cell (World.block_lt_of_cell? w _ q2)).trans q2
          replace q3 := (HB.out.cell (World.block_lt_of_cell? w _ q3)).trans q3
          have p0 := eq_true h0
          have p1 := eq_true hlt
          have hw1 : wrap64 (x5 + 1) = x5 + 1 := by unfold wrap64; omega
          go_wp2
          refine start_ (n := 12) (S := fun w' => w'.cell? ⟨w.heap.size, 7, none⟩ = some (.slice (some ad) l7.length c7) ∧ w'.cell? ⟨w.heap.size + 1, 7, none⟩ = some (.slice (some bd) l7.length d7) ∧ w'.cell? (ad.add (x5.toNat * 4)) = some (.int .i64 (rd_T80 l7 x5).f0) ∧ w'.cell? ⟨(ad.add (x5.toNat * 4)).block, (ad.add (x5.toNat * 4)).off + 1, none⟩ = some (.int .i64 (rd_T80 l7 x5).f1) ∧ w'.cell? ⟨(ad.add (x5.toNat * 4)).block, (ad.add (x5.toNat * 4)).off + 2, none⟩ = some (.string (rd_T80 l7 x5).f2) ∧ w'.cell? ⟨(ad.add (x5.toNat * 4)).block, (ad.add (x5.toNat * 4)).off + 3, none⟩ = some (.slice E3 (rd_T80 l7 x5).f3.length e3) ∧ w'.cell? (bd.add (x5.toNat * 4)) = some (.int .i64 (rd_T80 l7 x5).f0) ∧ w'.cell? ⟨(bd.add (x5.toNat * 4)).block, (bd.add (x5.toNat * 4)).off + 1, none⟩ = some (.int .i64 (rd_T80 l7 x5).f1) ∧ w'.cell? ⟨(bd.add (x5.toNat * 4)).block, (bd.add (x5.toNat * 4)).off + 2, none⟩ = some (.string (rd_T80 l7 x5).f2) ∧ w'.cell? ⟨(bd.add (x5.toNat * 4)).block, (bd.add (x5.toNat * 4)).off + 3, none⟩ = some (.slice F3 (rd_T80 l7 x5).f3.length f3)) (ds := []) #[false, false, false, false, false, false, false, false, false, false, false, false] (by kernel_rfl) rfl rfl ⟨ka7, kb7, z0, z1, z2, z3, q0, q1, q2, q3⟩ (fun hHeld => ?_)
          refine pure_ (i := 0) (N := some 101) (v := ?_) (a' := ?_) #[true, false, false, false, false, false, false, false, false, false, false, false] rfl rfl (by kernel_rfl) (fun _ _ _ h => h) (Or.inl ⟨by rfl, ?_⟩) ?_ ?_
          rotate_left
          · intro w'
            go_simp
            with_reducible rfl
          rotate_left
          · simp only [Act.put, List.setIfInBounds_toArray, List.set_cons_zero, List.set_cons_succ]
            rfl
          refine pure_ (i := 2) (N := some 103) (v := ?_) (a' := ?_) #[true, false, true, false, false, false, false, false, false, false, false, false] rfl rfl (by kernel_rfl) (fun _ _ _ h => h) (Or.inl ⟨by rfl, ?_⟩) ?_ ?_
          rotate_left
          · intro w'
            go_simp
            with_reducible rfl
          rotate_left
          · simp only [Act.put, List.setIfInBounds_toArray, List.set_cons_zero, List.set_cons_succ]
            rfl
          refine pure_ (i := 5) (N := some 106) (v := ?_) (a' := ?_) #[true, false, true, false, false, true, false, false, false, false, false, false] rfl rfl (by kernel_rfl) (fun _ _ _ h => h) (Or.inl ⟨by rfl, ?_⟩) ?_ ?_
          rotate_left
          · intro w'
            go_simp
            with_reducible rfl
          rotate_left
          · simp only [Act.put, List.setIfInBounds_toArray, List.set_cons_zero, List.set_cons_succ]
            rfl
          refine pure_ (i := 7) (N := some 108) (v := ?_) (a' := ?_) #[true, false, true, false, false, true, false, true, false, false, false, false] rfl rfl (by kernel_rfl) (fun _ _ _ h => h) (Or.inl ⟨by rfl, ?_⟩) ?_ ?_
          rotate_left
          · intro w'
            go_simp
            with_reducible rfl
          rotate_left
          · simp only [Act.put, List.setIfInBounds_toArray, List.set_cons_zero, List.set_cons_succ]
            rfl
          refine take_ (i := 1) (N := some 102) (v := ?_) (a' := ?_) #[true, true, true, false, false, true, false, true, false, false, false, false] rfl rfl (by kernel_rfl) (fun _ _ _ h => h) (Or.inl ⟨by rfl, ?_⟩) hHeld ?_ ?_
          rotate_left
          · rintro w' ⟨s0, s1, s2, s3, s4, s5, s6, s7, s8, s9⟩
            go_simp
            with_reducible rfl
          rotate_left
          · simp only [Act.put, List.setIfInBounds_toArray, List.set_cons_zero, List.set_cons_succ]
            rfl
          refine pure_ (i := 3) (N := some 104) (v := ?_) (a' := ?_) #[true, true, true, true, false, true, false, true, false, false, false, false] rfl rfl (by kernel_rfl) (fun _ _ _ h => h) (Or.inl ⟨by rfl, ?_⟩) ?_ ?_
          rotate_left
          · intro w'
            go_simp
            with_reducible rfl
          rotate_left
          · simp only [Act.put, List.setIfInBounds_toArray, List.set_cons_zero, List.set_cons_succ]
            rfl
          refine take_ (i := 4) (N := some 105) (v := ?_) (a' := ?_) #[true, true, true, true, true, true, false, true, false, false, false, false] rfl rfl (by kernel_rfl) (fun _ _ _ h => h) (Or.inl ⟨by rfl, ?_⟩) hHeld ?_ ?_
          rotate_left
          · rintro w' ⟨s0, s1, s2, s3, s4, s5, s6, s7, s8, s9⟩
            go_simp
            with_reducible rfl
          rotate_left
          · simp only [Act.put, List.setIfInBounds_toArray, List.set_cons_zero, List.set_cons_succ]
            rfl
          refine take_ (i := 6) (N := some 107) (v := ?_) (a' := ?_) #[true, true, true, true, true, true, true, true, false, false, false, false] rfl rfl (by kernel_rfl) (fun _ _ _ h => h) (Or.inl ⟨by rfl, ?_⟩) hHeld ?_ ?_
          rotate_left
          · rintro w' ⟨s0, s1, s2, s3, s4, s5, s6, s7, s8, s9⟩
            go_simp
            with_reducible rfl
          rotate_left
          · simp only [Act.put, List.setIfInBounds_toArray, List.set_cons_zero, List.set_cons_succ]
            rfl
          refine pure_ (i := 8) (N := some 109) (v := ?_) (a' := ?_) #[true, true, true, true, true, true, true, true, true, false, false, false] rfl rfl (by kernel_rfl) (fun _ _ _ h => h) (Or.inl ⟨by rfl, ?_⟩) ?_ ?_
          rotate_left
          · intro w'
            go_simp
            with_reducible rfl
          rotate_left
          · simp only [Act.put, List.setIfInBounds_toArray, List.set_cons_zero, List.set_cons_succ]
            rfl
          refine take_ (i := 9) (N := some 110) (v := ?_) (a' := ?_) #[true, true, true, true, true, true, true, true, true, true, false, false] rfl rfl (by kernel_rfl) (fun _ _ _ h => h) (Or.inl ⟨by rfl, ?_⟩) hHeld ?_ ?_
          rotate_left
          · rintro w' ⟨s0, s1, s2, s3, s4, s5, s6, s7, s8, s9⟩
            go_simp
            with_reducible rfl
          rotate_left
          · simp only [Act.put, List.setIfInBounds_toArray, List.set_cons_zero, List.set_cons_succ]
            rfl
          refine one_ (i := 10) (N := some 111) #[true, true, true, true, true, true, true, true, true, true, true, false] rfl rfl (by kernel_rfl) (by decide) (fun K hK => ?_)
          refine goes_ Try.func78 (by kernel_rfl) rfl #[.agg #[.int .i64 (rd_T80 l7 x5).f0, .int .i64 (rd_T80 l7 x5).f1, .string (rd_T80 l7 x5).f2, .slice E3 (rd_T80 l7 x5).f3.length e3], .agg #[.int .i64 (rd_T80 l7 x5).f0, .int .i64 (rd_T80 l7 x5).f1, .string (rd_T80 l7 x5).f2, .slice F3 (rd_T80 l7 x5).f3.length f3]] (by rfl) rfl rfl (by (try simp only [List.map_toArray, List.map_cons, List.map_nil]); rfl) ?_
          refine (sameInst_true (rd_T80 l7 x5) _ _ _ (k80.K_below (pw_below_drewN HB.out 1) KA.out) (k80.K_below (pw_below_drewN HB.out 1) KB.out)).mono ?_
          rintro e W3 ⟨rfl, hb⟩
          refine ⟨_, rfl, ?_⟩
          obtain ⟨s0, s1, s2, s3, s4, s5, s6, s7, s8, s9⟩ := hHeld
          have HB3 := Aside0.mk (below_then (below_drew HB.out) (below_drew HB.out).size hb)
          have BA3 := Aside0.mk ((hb.block _ (blk_lt (show wr.drew.heap[w.heap.size]? = _ from BA.out))).trans BA.out)
          have BB3 := Aside0.mk ((hb.block _ (blk_lt (show wr.drew.heap[w.heap.size + 1]? = _ from BB.out))).trans BB.out)
          refine hK.out _ _ ⟨((hb.cell (World.block_lt_of_cell? _ _ s0)).trans s0), ((hb.cell (World.block_lt_of_cell? _ _ s1)).trans s1), ((hb.cell (World.block_lt_of_cell? _ _ s2)).trans s2), ((hb.cell (World.block_lt_of_cell? _ _ s3)).trans s3), ((hb.cell (World.block_lt_of_cell? _ _ s4)).trans s4), ((hb.cell (World.block_lt_of_cell? _ _ s5)).trans s5), ((hb.cell (World.block_lt_of_cell? _ _ s6)).trans s6), ((hb.cell (World.block_lt_of_cell? _ _ s7)).trans s7), ((hb.cell (World.block_lt_of_cell? _ _ s8)).trans s8), ((hb.cell (World.block_lt_of_cell? _ _ s9)).trans s9)⟩ (fun hHeld => ?_)
          clear hK K
          refine norm_ (a' := ?_) ?_ ?_
          rotate_left
          · show Act.put _ (some 111) _ = _
            simp only [Act.put, List.setIfInBounds_toArray, List.set_cons_zero, List.set_cons_succ]
            rfl
          refine pure_ (i := 11) (N := some 112) (v := ?_) (a' := ?_) #[true, true, true, true, true, true, true, true, true, true, true, true] rfl rfl (by kernel_rfl) (fun _ _ _ h => h) (Or.inl ⟨by rfl, ?_⟩) ?_ ?_
          rotate_left
          · intro w'
            go_simp
            with_reducible rfl
          rotate_left
          · simp only [Act.put, List.setIfInBounds_toArray, List.set_cons_zero, List.set_cons_succ]
            rfl
          refine done_ (by kernel_rfl) ?_
          clear hHeld s0
          go_wp2
          go_roundg (l7.length - (x5.toNat + 1))
          case measure => omega
          case rel => exact ⟨x5 + 1, by omega, by omega, by omega, by first | rfl | go_num, BA3, BB3, HB3⟩
        · go_wp2
          go_ret
          exact ⟨by first | rfl | simp, HB.out⟩
set_option maxHeartbeats 8000000 in
set_option maxRecDepth 100000 in
theorem same09_true (l0 : List Int) (l1 : List Int) (l2 : List S45) (l3 : List Int) (l5 : List S92) (l7 : List S80) (a4 a6 a8 : Int) (a9 : ByteArray) (A0 : Option Addr) (c0 : Nat) (B0 : Option Addr) (d0 : Nat) (A1 : Option Addr) (c1 : Nat) (B1 : Option Addr) (d1 : Nat) (A2 : Option Addr) (c2 : Nat) (B2 : Option Addr) (d2 : Nat) (A3 : Option Addr) (c3 : Nat) (B3 : Option Addr) (d3 : Nat) (A5 : Option Addr) (c5 : Nat) (B5 : Option Addr) (d5 : Nat) (A7 : Option Addr) (c7 : Nat) (B7 : Option Addr) (d7 : Nat) (w : World) (hA0 : Kd.C (Kd.int .u32) w A0 l0.length l0) (hc0 : l0.length ≤ c0) (hB0 : Kd.C (Kd.int .u32) w B0 l0.length l0) (hd0 : l0.length ≤ d0) (hA1 : Kd.C (Kd.int .u8) w A1 l1.length l1) (hc1 : l1.length ≤ c1) (hB1 : Kd.C (Kd.int .u8) w B1 l1.length l1) (hd1 : l1.length ≤ d1) (hA2 : Kd.C k45 w A2 l2.length l2) (hc2 : l2.length ≤ c2) (hB2 : Kd.C k45 w B2 l2.length l2) (hd2 : l2.length ≤ d2) (hA3 : Kd.C (Kd.int .i64) w A3 l3.length l3) (hc3 : l3.length ≤ c3) (hB3 : Kd.C (Kd.int .i64) w B3 l3.length l3) (hd3 : l3.length ≤ d3) (hA5 : Kd.C k92 w A5 l5.length l5) (hc5 : l5.length ≤ c5) (hB5 : Kd.C k92 w B5 l5.length l5) (hd5 : l5.length ≤ d5) (hA7 : Kd.C k80 w A7 l7.length l7) (hc7 : l7.length ≤ c7) (hB7 : Kd.C k80 w B7 l7.length l7) (hd7 : l7.length ≤ d7) :
    Calls Try.prog 22 #[.agg #[.slice A0 l0.length c0, .slice A1 l1.length c1, .slice A2 l2.length c2, .slice A3 l3.length c3, .int .u32 a4, .slice A5 l5.length c5, .int .i64 a6, .slice A7 l7.length c7, .int .i64 a8, .string a9], .agg #[.slice B0 l0.length d0, .slice B1 l1.length d1, .slice B2 l2.length d2, .slice B3 l3.length d3, .int .u32 a4, .slice B5 l5.length d5, .int .i64 a6, .slice B7 l7.length d7, .int .i64 a8, .string a9]] w fun e w' => e = .returned (.bool true) ∧ Below w.heap.size w w' := by
  have hm3 := hA3.2.1
  have G := Aside0.mk (fun W (hW : Below w.heap.size w W) => sameBut_true l0 l1 l2 l3 l5 l7 a4 a6 a8 a9 A0 c0 B0 d0 A1 c1 B1 d1 A2 c2 B2 d2 A3 c3 B3 d3 A5 c5 B5 d5 A7 c7 B7 d7 W (Kd.C_below hA0 hW) hc0 (Kd.C_below hB0 hW) hd0 (Kd.C_below hA1 hW) hc1 (Kd.C_below hB1 hW) hd1 (Kd.C_below hA2 hW) hc2 (Kd.C_below hB2 hW) hd2 (Kd.C_below hA3 hW) hc3 (Kd.C_below hB3 hW) hd3 (Kd.C_below hA5 hW) hc5 (Kd.C_below hB5 hW) hd5 (Kd.C_below hA7 hW) hc7 (Kd.C_below hB7 hW) hd7)
  have GA := Aside0.mk hA3
  have GB := Aside0.mk hB3
  clear hA0 hc0 hB0 hd0 hA1 hc1 hB1 hd1 hA2 hc2 hB2 hd2 hA3 hc3 hB3 hd3 hA5 hc5 hB5 hd5 hA7 hc7 hB7 hd7
  have L0 := below_alloc (below_alloc (Below.refl w.heap.size w) (.cells #[.slice A0 l0.length c0, .slice A1 l1.length c1, .slice A2 l2.length c2, .slice A3 l3.length c3, .int .u32 a4, .slice A5 l5.length c5, .int .i64 a6, .slice A7 l7.length c7, .int .i64 a8, .string a9] 35)) (.cells #[.slice B0 l0.length d0, .slice B1 l1.length d1, .slice B2 l2.length d2, .slice B3 l3.length d3, .int .u32 a4, .slice B5 l5.length d5, .int .i64 a6, .slice B7 l7.length d7, .int .i64 a8, .string a9] 35)
  have N1 := blk_new (w.alloc (.cells #[.slice A0 l0.length c0, .slice A1 l1.length c1, .slice A2 l2.length c2, .slice A3 l3.length c3, .int .u32 a4, .slice A5 l5.length c5, .int .i64 a6, .slice A7 l7.length c7, .int .i64 a8, .string a9] 35)) (.cells #[.slice B0 l0.length d0, .slice B1 l1.length d1, .slice B2 l2.length d2, .slice B3 l3.length d3, .int .u32 a4, .slice B5 l5.length d5, .int .i64 a6, .slice B7 l7.length d7, .int .i64 a8, .string a9] 35)
  have hz0 : (w.alloc (.cells #[.slice A0 l0.length c0, .slice A1 l1.length c1, .slice A2 l2.length c2, .slice A3 l3.length c3, .int .u32 a4, .slice A5 l5.length c5, .int .i64 a6, .slice A7 l7.length c7, .int .i64 a8, .string a9] 35)).heap.size = w.heap.size + 1 := by simp
  have N0 := ((below_alloc (Below.refl (w.alloc (.cells #[.slice A0 l0.length c0, .slice A1 l1.length c1, .slice A2 l2.length c2, .slice A3 l3.length c3, .int .u32 a4, .slice A5 l5.length c5, .int .i64 a6, .slice A7 l7.length c7, .int .i64 a8, .string a9] 35)).heap.size (w.alloc (.cells #[.slice A0 l0.length c0, .slice A1 l1.length c1, .slice A2 l2.length c2, .slice A3 l3.length c3, .int .u32 a4, .slice A5 l5.length c5, .int .i64 a6, .slice A7 l7.length c7, .int .i64 a8, .string a9] 35))) (.cells #[.slice B0 l0.length d0, .slice B1 l1.length d1, .slice B2 l2.length d2, .slice B3 l3.length d3, .int .u32 a4, .slice B5 l5.length d5, .int .i64 a6, .slice B7 l7.length d7, .int .i64 a8, .string a9] 35)).block _ (blk_lt (blk_new w (.cells #[.slice A0 l0.length c0, .slice A1 l1.length c1, .slice A2 l2.length c2, .slice A3 l3.length c3, .int .u32 a4, .slice A5 l5.length c5, .int .i64 a6, .slice A7 l7.length c7, .int .i64 a8, .string a9] 35)))).trans (blk_new w (.cells #[.slice A0 l0.length c0, .slice A1 l1.length c1, .slice A2 l2.length c2, .slice A3 l3.length c3, .int .u32 a4, .slice A5 l5.length c5, .int .i64 a6, .slice A7 l7.length c7, .int .i64 a8, .string a9] 35))
  rw [hz0] at N1
  have HB := Aside0.mk L0
  have BA := Aside0.mk N0
  have BB := Aside0.mk N1
  clear L0 N0 N1 hz0
  go_enter Try.func22, Try.ntmps22
  have ka0 := cell_of_row _ _ 0 _ _ _ BA.out; have ka1 := cell_of_row _ _ 1 _ _ _ BA.out; have ka2 := cell_of_row _ _ 2 _ _ _ BA.out; have ka3 := cell_of_row _ _ 3 _ _ _ BA.out; have ka4 := cell_of_row _ _ 4 _ _ _ BA.out; have ka5 := cell_of_row _ _ 5 _ _ _ BA.out; have ka6 := cell_of_row _ _ 6 _ _ _ BA.out; have ka7 := cell_of_row _ _ 7 _ _ _ BA.out; have ka8 := cell_of_row _ _ 8 _ _ _ BA.out; have ka9 := cell_of_row _ _ 9 _ _ _ BA.out; have kb0 := cell_of_row _ _ 0 _ _ _ BB.out; have kb1 := cell_of_row _ _ 1 _ _ _ BB.out; have kb2 := cell_of_row _ _ 2 _ _ _ BB.out; have kb3 := cell_of_row _ _ 3 _ _ _ BB.out; have kb4 := cell_of_row _ _ 4 _ _ _ BB.out; have kb5 := cell_of_row _ _ 5 _ _ _ BB.out; have kb6 := cell_of_row _ _ 6 _ _ _ BB.out; have kb7 := cell_of_row _ _ 7 _ _ _ BB.out; have kb8 := cell_of_row _ _ 8 _ _ _ BB.out; have kb9 := cell_of_row _ _ 9 _ _ _ BB.out; simp only [List.getElem?_toArray, List.getElem?_cons_succ, List.getElem?_cons_zero] at ka0 kb0 ka1 kb1 ka2 kb2 ka3 kb3 ka4 kb4 ka5 kb5 ka6 kb6 ka7 kb7 ka8 kb8 ka9 kb9
  go_wp2
  obtain ⟨W1, hW1⟩ : ∃ W1, (w.alloc (.cells #[.slice A0 l0.length c0, .slice A1 l1.length c1, .slice A2 l2.length c2, .slice A3 l3.length c3, .int .u32 a4, .slice A5 l5.length c5, .int .i64 a6, .slice A7 l7.length c7, .int .i64 a8, .string a9] 35)).alloc (.cells #[.slice B0 l0.length d0, .slice B1 l1.length d1, .slice B2 l2.length d2, .slice B3 l3.length d3, .int .u32 a4, .slice B5 l5.length d5, .int .i64 a6, .slice B7 l7.length d7, .int .i64 a8, .string a9] 35) = W1 := ⟨_, rfl⟩
  rw [hW1] at HB BA BB
  rw [hW1]
  (try clear ka0 kb0 ka1 kb1 ka2 kb2 ka3 kb3 ka4 kb4 ka5 kb5 ka6 kb6 ka7 kb7 ka8 kb8 ka9 kb9)
  clear hW1
  go_loopg [5] l3.length (fun gg v5 wr => ∃ x5 : Int, 0 ≤ x5 ∧ x5 ≤ (l3.length : Int) ∧ l3.length - x5.toNat ≤ gg ∧ v5 = .int .i64 x5 ∧ Aside0 (wr.heap[w.heap.size]? = some (.cells #[.slice A0 l0.length c0, .slice A1 l1.length c1, .slice A2 l2.length c2, .slice A3 l3.length c3, .int .u32 a4, .slice A5 l5.length c5, .int .i64 a6, .slice A7 l7.length c7, .int .i64 a8, .string a9] 35 (0, 0))) ∧ Aside0 (wr.heap[w.heap.size + 1]? = some (.cells #[.slice B0 l0.length d0, .slice B1 l1.length d1, .slice B2 l2.length d2, .slice B3 l3.length d3, .int .u32 a4, .slice B5 l5.length d5, .int .i64 a6, .slice B7 l7.length d7, .int .i64 a8, .string a9] 35 (0, 0))) ∧ Aside0 (Below w.heap.size w wr))
  case atStart => exact ⟨0, by omega, by omega, by omega, rfl, BA, BB, HB⟩
  case round =>
    clear HB BA BB
    obtain ⟨x5, h0, hle, hgg, rfl, BA, BB, HB⟩ := hrel
    have ka0 := cell_of_row _ _ 0 _ _ _ BA.out; have ka1 := cell_of_row _ _ 1 _ _ _ BA.out; have ka2 := cell_of_row _ _ 2 _ _ _ BA.out; have ka3 := cell_of_row _ _ 3 _ _ _ BA.out; have ka4 := cell_of_row _ _ 4 _ _ _ BA.out; have ka5 := cell_of_row _ _ 5 _ _ _ BA.out; have ka6 := cell_of_row _ _ 6 _ _ _ BA.out; have ka7 := cell_of_row _ _ 7 _ _ _ BA.out; have ka8 := cell_of_row _ _ 8 _ _ _ BA.out; have ka9 := cell_of_row _ _ 9 _ _ _ BA.out; have kb0 := cell_of_row _ _ 0 _ _ _ BB.out; have kb1 := cell_of_row _ _ 1 _ _ _ BB.out; have kb2 := cell_of_row _ _ 2 _ _ _ BB.out; have kb3 := cell_of_row _ _ 3 _ _ _ BB.out; have kb4 := cell_of_row _ _ 4 _ _ _ BB.out; have kb5 := cell_of_row _ _ 5 _ _ _ BB.out; have kb6 := cell_of_row _ _ 6 _ _ _ BB.out; have kb7 := cell_of_row _ _ 7 _ _ _ BB.out; have kb8 := cell_of_row _ _ 8 _ _ _ BB.out; have kb9 := cell_of_row _ _ 9 _ _ _ BB.out; simp only [List.getElem?_toArray, List.getElem?_cons_succ, List.getElem?_cons_zero] at ka0 kb0 ka1 kb1 ka2 kb2 ka3 kb3 ka4 kb4 ka5 kb5 ka6 kb6 ka7 kb7 ka8 kb8 ka9 kb9
    by_cases hlt : x5 < (l3.length : Int)
    · obtain ⟨ad, e, z0⟩ := Kd.at_int GA.out x5 h0 hlt
      cases e
      obtain ⟨bd, e, q0⟩ := Kd.at_int GB.out x5 h0 hlt
      cases e
      replace z0 := (HB.out.cell (World.block_lt_of_cell? w _ z0)).trans z0
      replace q0 := (HB.out.cell (World.block_lt_of_cell? w _ q0)).trans q0
      have p0 := eq_true h0
      have p1 := eq_true hlt
      have hw1 : wrap64 (x5 + 1) = x5 + 1 := by unfold wrap64; omega
      go_wp2
      go_quiet (fail)
      go_wp2
      go_roundg (l3.length - (x5.toNat + 1))
      case measure => omega
      case rel => exact ⟨x5 + 1, by omega, by omega, by omega, by first | rfl | go_num, ⟨BA.out⟩, ⟨BB.out⟩, ⟨pw_below_drewN HB.out _⟩⟩
    · go_wp2_with (go_at_call 47; refine (G.out _ HB.out).mono ?_; rintro e wF ⟨rfl, hbF⟩)
      go_ret
      exact ⟨by first | rfl | simp, below_then HB.out HB.out.size hbF⟩
end Go.Proofs.Ytpalbpakeokimaa.PK
