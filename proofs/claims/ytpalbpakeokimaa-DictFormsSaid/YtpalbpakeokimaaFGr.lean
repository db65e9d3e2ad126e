/- tinder: a part of the proof, joined and pruned by wip/tools/prune.py out of: Gr -/
import Derived.Test.YtpalbpakeokimaaFGp
import Derived.Test.YtpalbpakeokimaaFGt
import Derived.RangeFuncNested
import Derived.RangeFuncBound
import Derived.RangeFuncCalls
import Derived.RangeFuncLeaves
import Derived.RangeFuncBox
import Derived.Shelf.Abstract
import Derived.Shelf.RegionOpen
import Derived.WalkKit
import Derived.OwnWalkIn
import Derived.TacticsInMore
import Derived.LoopNIn
import Derived.LoopIn
import Derived.Outline
namespace Go.Proofs.Ytpalbpakeokimaa.PK
set_option linter.unusedVariables false
set_option linter.unusedSimpArgs false
open Go.RowKit Go.Proofs.YtpalbpakeokimaaW.PrintWords Go.Proofs.YtpalbpakeokimaaW.PrintLast Go.Proofs.YtpalbpakeokimaaW.PrintMore
open Go.Shelf
attribute [local go_sem] Oper.semAt_some
def KpT (n₀ T : Nat) (A B : World) : Prop := A.heap.size ≤ B.heap.size ∧ ∀ k, k < A.heap.size → (k < n₀ ∨ ∃ cells, A.heap[k]? = some (.cells cells T (0, 0))) → B.heap[k]? = A.heap[k]?
theorem KpT.refl (n₀ T : Nat) (A : World) : KpT n₀ T A A := ⟨Nat.le_refl _, fun _ _ _ => rfl⟩
theorem KpT.trans {n₀ T : Nat} {A B C : World} (h : KpT n₀ T A B) (k : KpT n₀ T B C) : KpT n₀ T A C :=
  ⟨Nat.le_trans h.1 k.1, fun j hj ht => (k.2 j (Nat.lt_of_lt_of_le hj h.1) (ht.imp_right fun ⟨c, hc⟩ => ⟨c, (h.2 j hj ht).trans hc⟩)).trans (h.2 j hj ht)⟩
theorem KpT.block {n₀ T : Nat} {A B : World} (h : KpT n₀ T A B) {k : Nat} {c : Array Value} (hk : A.heap[k]? = some (.cells c T (0, 0))) : B.heap[k]? = some (.cells c T (0, 0)) :=
  (h.2 k (Array.getElem?_eq_some_iff.1 hk).1 (.inr ⟨c, hk⟩)).trans hk
theorem KpT.low {n₀ T : Nat} {A B : World} (h : KpT n₀ T A B) {k : Nat} (hk : k < n₀) (hA : n₀ ≤ A.heap.size) : B.heap[k]? = A.heap[k]? := h.2 k (Nat.lt_of_lt_of_le hk hA) (.inl hk)
theorem kpT_b {n₀ T : Nat} {w : World} (hn : n₀ ≤ w.heap.size) (W : World) (l : Nat) (o o' : Obj) (hl : w.heap.size ≤ l) (h : W.heap[l]? = some o) (hc : o.isCells = false) (_ : o.isWalk = false) : KpT n₀ T W (W.putObj l o') := by
  refine ⟨(grownBy_putObj' W l o').size, fun k hk ht => ?_⟩
  refine World.putObj_heap_other (fun e => ?_)
  subst e
  rcases ht with ht | ⟨c, hc2⟩
  · omega
  · rw [h] at hc2
    injection hc2 with hc2
    subst hc2
    cases hc
theorem KpT.of_below {n₀ T : Nat} {A B : World} (h : Below A.heap.size A B) : KpT n₀ T A B := ⟨h.size, fun k hk _ => h.block k hk⟩
def primAt (k : Nat) : S64 := primsL.getD k z64
def primEnc (i : Fin 111) : Array Value := #[.int .i64 (i.val : Int), .agg #[.string (primAt i.val).f0, .int .i64 (primAt i.val).f1]]
theorem prim_cells {W : World} {B : Nat} (h : W.heap[B]? = some (.cells primCells.toArray 64 (0, 0))) (k : Nat) (hk : k < 111) : W.cell? ⟨B, k * 2, none⟩ = some (.string (primAt k).f0) ∧ W.cell? ⟨B, k * 2 + 1, none⟩ = some (.int .i64 (primAt k).f1) := by
  have key : ∀ (l : List S64) (j : Nat) (h : j < l.length), (l.flatMap fun p => [Value.string p.f0, .int .i64 p.f1])[j * 2]? = some (.string (l.getD j z64).f0) ∧ (l.flatMap fun p => [Value.string p.f0, .int .i64 p.f1])[j * 2 + 1]? = some (.int .i64 (l.getD j z64).f1) := by
    intro l
    induction l with
    | nil => intro j h; exact absurd h (Nat.not_lt_zero _)
    | cons x l ih =>
      intro j h
      cases j with
      | zero => exact ⟨rfl, rfl⟩
      | succ j =>
        have := ih j (by simpa using h)
        rw [show (j + 1) * 2 = j * 2 + 2 by omega]
        simpa using this
  have hl : k < primsL.length := by simp only [primsL, List.length_cons, List.length_nil]; exact hk
  obtain ⟨h1, h2⟩ := key primsL k hl
  exact ⟨by simp only [World.cell?, h]; simpa [primCells, primAt] using h1, by simp only [World.cell?, h]; simpa [primCells, primAt] using h2⟩
theorem fin_take (k : Nat) (hk : k < 111) : (List.finRange 111).take (k + 1) = (List.finRange 111).take k ++ [⟨k, hk⟩] := by
  rw [List.take_succ_eq_append_getElem (by simpa using hk)]
  simp
set_option maxRecDepth 100000 in
set_option maxHeartbeats 2000000 in
theorem prims_stops (n n₀ : Nat) (hn : 1 ≤ n) (w : World) : SeqStopsK Fence.wide n Try.prog 35 #[] primEnc (KpT n₀ 64) (fun xs => xs = List.finRange 111) (fun pre => pre <+: List.finRange 111) 111 w := fun l J Jx W hW hJ hJx hY h0 => by
  refine callsIn_of_wp Try.func35 rfl trivial ?_ rfl
  simp only [Try.ntmps35, List.size_toArray, List.length_cons, List.length_nil, Nat.reduceAdd, Nat.reduceSub, Array.replicate_succ, Array.replicate_zero, List.push_toArray, List.append_toArray, List.nil_append, List.cons_append]
  gi_wp2_with (refine ⟨trivial, ?_⟩; gi_at_call 64; refine (callsIn_wide.2 (prims64 _)).mono ?_; rintro e w1 ⟨rfl, rfl⟩)
  have hJ1 : ∀ pre W1, J pre W1 → ∀ o, J pre (W1.alloc o) := fun pre W1 h o => hJ pre W1 _ none h (World.grownBy_alloc W1 o none) (fun r e => by cases e)
  have HJ1 := Aside0.mk hJ1
  have HY := Aside0.mk hY
  have h00 := Aside0.mk (hJ1 _ _ h0 (.cells primCells.toArray 64))
  have hrow : (W.alloc (.cells primCells.toArray 64)).heap[W.heap.size]? = some (.cells primCells.toArray 64 (0, 0)) := World.alloc_heap_new _ _
  clear hJ1 hY h0 hJ hJx hW
  gi_loopw [6] (fun i wr => ∃ k : Nat, k ≤ 111 ∧ i = .int .i64 k ∧ Aside0 (J ((List.finRange 111).take k) wr) ∧ Aside0 (wr.heap[W.heap.size]? = some (.cells primCells.toArray 64 (0, 0)))) (fun i _ => 111 - (intOf i).toNat)
  case atStart => exact ⟨0, Nat.zero_le _, rfl, h00, ⟨hrow⟩⟩
  case round =>
    obtain ⟨k, hk, rfl, HJ, HR⟩ := hrel
    by_cases hlt : k < 111
    · have hltz : (k : Int) < 111 := by omega
      obtain ⟨c0, c1⟩ := prim_cells HR.out k hlt
      have hblt : W.heap.size < wr.heap.size := (Array.getElem?_eq_some_iff.1 HR.out).1
      obtain ⟨fn, tmps, assign, body, hy, hR⟩ := HY.out _ ⟨k, hlt⟩ _ (HJ1.out _ _ HJ.out (.cells #[.string (primAt k).f0, .int .i64 (primAt k).f1] 64)) (by simp; omega)
      simp only [primEnc] at hy
      clear hrow
      gi_wp2
      refine hR.mono ?_
      rintro e W3 (⟨rfl, hJ3, hk3⟩ | ⟨rfl, hJx3⟩)
      · have H3 := Aside0.mk hJ3
        have K3 := Aside0.mk hk3
        clear hJ3 hk3 hy hR
        gi_wp2
        go_roundw
        case rel =>
          refine ⟨k + 1, by omega, by go_num, ⟨by rw [fin_take k hlt]; exact H3.out⟩, ⟨K3.out.block ?_⟩⟩
          exact (Below.heap_alloc _ _ _ hblt).trans HR.out
        case measure => simp [intOf]; omega
      · have H3 := Aside0.mk hJx3
        clear hJx3 hy hR
        gi_wp2
        refine bodyPost_ret (results_none rfl _ _ _) rfl ?_
        exact ⟨⟨_, rfl⟩, .inr ⟨_, ⟨_, by rw [← fin_take k hlt]; exact List.take_append_drop _ _⟩, H3.out⟩⟩
    · obtain rfl : k = 111 := by omega
      have HJ2 := Aside0.mk (show J (List.finRange 111) wr by have := HJ.out; rwa [List.take_of_length_le (by simp)] at this)
      gi_wp2
      go_end0
      exact ⟨⟨_, rfl⟩, .inl ⟨_, rfl, HJ2.out⟩⟩
theorem cell_of_heap {A B : World} {p : Addr} (h : B.heap[p.block]? = A.heap[p.block]?) : B.cell? p = A.cell? p := by simp [World.cell?, h]
def wordV (x : S45) (q : Option Addr × Nat) : Value := .agg #[.string x.f0, .int .i64 x.f1, .int .i64 x.f2, .int .u32 x.f3, .slice q.1 x.f4.length q.2]
def wordEnc (l : List S45) (f : Fin l.length → Option Addr × Nat) (i : Fin l.length) : Array Value := #[.int .i64 (i.val : Int), wordV (l.getD i.val z45) (f i)]
def WordAt (w : World) (ad : Addr) (i : Nat) (x : S45) (q : Option Addr × Nat) : Prop :=
  w.cell? (ad.add (i * 5)) = some (.string x.f0) ∧ w.cell? ⟨(ad.add (i * 5)).block, (ad.add (i * 5)).off + 1, none⟩ = some (.int .i64 x.f1) ∧ w.cell? ⟨(ad.add (i * 5)).block, (ad.add (i * 5)).off + 2, none⟩ = some (.int .i64 x.f2) ∧ w.cell? ⟨(ad.add (i * 5)).block, (ad.add (i * 5)).off + 3, none⟩ = some (.int .u32 x.f3) ∧ w.cell? ⟨(ad.add (i * 5)).block, (ad.add (i * 5)).off + 4, none⟩ = some (.slice q.1 x.f4.length q.2)
theorem WordAt.kept {A B : World} {ad : Addr} {i : Nat} {x : S45} {q : Option Addr × Nat} (h : WordAt A ad i x q) (hb : B.heap[ad.block]? = A.heap[ad.block]?) : WordAt B ad i x q := by
  have hb' : B.heap[(ad.add (i * 5)).block]? = A.heap[(ad.add (i * 5)).block]? := by rw [add_block]; exact hb
  obtain ⟨h0, h1, h2, h3, h4⟩ := h
  exact ⟨(cell_of_heap hb').trans h0, (cell_of_heap (p := ⟨(ad.add (i * 5)).block, _, none⟩) hb').trans h1, (cell_of_heap (p := ⟨(ad.add (i * 5)).block, _, none⟩) hb').trans h2, (cell_of_heap (p := ⟨(ad.add (i * 5)).block, _, none⟩) hb').trans h3, (cell_of_heap (p := ⟨(ad.add (i * 5)).block, _, none⟩) hb').trans h4⟩
theorem words_of {w : World} {A : Option Addr} {l : List S45} (h : Kd.C k45 w A l.length l) : ∃ f : Fin l.length → Option Addr × Nat, ∀ i : Fin l.length, (∃ ad, A = some ad ∧ WordAt w ad i.val (l.getD i.val z45) (f i)) ∧ (l.getD i.val z45).f4.length ≤ (f i).2 ∧ Kd.C k57 w (f i).1 (l.getD i.val z45).f4.length (l.getD i.val z45).f4 := by
  have : ∀ i : Fin l.length, ∃ q : Option Addr × Nat, (∃ ad, A = some ad ∧ WordAt w ad i.val (l.getD i.val z45) q) ∧ (l.getD i.val z45).f4.length ≤ q.2 ∧ Kd.C k57 w q.1 (l.getD i.val z45).f4.length (l.getD i.val z45).f4 := by
    intro i
    obtain ⟨ad, A4, c4, e1, h0, h1, h2, h3, h4, hl4, hi4⟩ := at_T45 h (i.val : Int) (by omega) (by have := i.isLt; omega)
    simp only [Int.toNat_natCast] at h0 h1 h2 h3 h4
    have hx : rd_T45 l (i.val : Int) = l.getD i.val z45 := by simp [rd_T45]
    rw [hx] at h0 h1 h2 h3 h4 hl4 hi4
    exact ⟨(A4, c4), ⟨ad, e1, h0, h1, h2, h3, h4⟩, hl4, hi4⟩
  exact Classical.skolem.1 this
theorem rev_take (n j : Nat) (hj : j < n) : (List.finRange n).reverse.take (n - j) = (List.finRange n).reverse.take (n - (j + 1)) ++ [⟨j, hj⟩] := by
  rw [show n - j = n - (j + 1) + 1 by omega, List.take_succ_eq_append_getElem (by simp; omega)]
  congr 1
  simp
  omega
set_option maxRecDepth 100000 in
set_option maxHeartbeats 2000000 in
theorem back_stops (n n₀ : Nat) (hn : 1 ≤ n) (Bs : Nat) (A : Option Addr) (c : Nat) (l : List S45) (f : Fin l.length → Option Addr × Nat) (w : World) (hmx : l.length ≤ 9223372036854775807) (hBs : w.heap[Bs]? = some (.cells #[.slice A l.length c] 29 (0, 0))) (hn₀ : n₀ ≤ w.heap.size)
    (hf : ∀ i : Fin l.length, ∃ ad, A = some ad ∧ ad.block < n₀ ∧ WordAt w ad i.val (l.getD i.val z45) (f i)) :
    SeqStopsK Fence.wide n Try.prog 85 #[.pointer (some ⟨Bs, 0, none⟩)] (wordEnc l f) (KpT n₀ 29) (fun xs => xs = (List.finRange l.length).reverse) (fun pre => pre <+: (List.finRange l.length).reverse) l.length w := fun s J Jx W hW hJ hJx hY h0 => by
  refine callsIn_of_wp Try.func85 rfl trivial ?_ rfl
  simp only [Try.ntmps85, List.size_toArray, List.length_cons, List.length_nil, Nat.reduceAdd, Nat.reduceSub, Array.replicate_succ, Array.replicate_zero, List.push_toArray, List.append_toArray, List.nil_append, List.cons_append]
  have hBW : W.heap[Bs]? = some (.cells #[.slice A l.length c] 29 (0, 0)) := (hW.block Bs (Array.getElem?_eq_some_iff.1 hBs).1).trans hBs
  have hcB : W.cell? ⟨Bs, 0, none⟩ = some (.slice A l.length c) := by simp [World.cell?, hBW]
  have hWn : n₀ ≤ W.heap.size := Nat.le_trans hn₀ hW.size
  have HF := Aside0.mk (show ∀ i : Fin l.length, ∃ ad, A = some ad ∧ ad.block < n₀ ∧ WordAt W ad i.val (l.getD i.val z45) (f i) from fun i => by
    obtain ⟨ad, e, hb, h⟩ := hf i
    exact ⟨ad, e, hb, h.kept (hW.block _ (Nat.lt_of_lt_of_le hb hn₀))⟩)
  have HY := Aside0.mk hY
  have H0 := Aside0.mk h0
  have HBW := Aside0.mk hBW
  have HWN := Aside0.mk hWn
  clear hY h0 hJ hJx hW hf hBs hBW hn₀ hWn
  gi_wp2
  gi_loopw [3] (fun i wr => ∃ m : Nat, m ≤ l.length ∧ i = .int .i64 ((m : Int) - 1) ∧ Aside0 (J ((List.finRange l.length).reverse.take (l.length - m)) wr) ∧ Aside0 (KpT n₀ 29 W wr)) (fun i _ => (intOf i + 1).toNat)
  case atStart => exact ⟨l.length, Nat.le_refl _, rfl, ⟨by rw [Nat.sub_self, List.take_zero]; exact H0.out⟩, ⟨KpT.refl _ _ _⟩⟩
  case round =>
    obtain ⟨m, hm, rfl, HJ, HK⟩ := hrel
    have hc2 : wr.cell? ⟨Bs, 0, none⟩ = some (.slice A l.length c) := (cell_of_heap (p := ⟨Bs, 0, none⟩) ((HK.out.block HBW.out).trans HBW.out.symm)).trans hcB
    cases m with
    | zero =>
      have HJ2 := Aside0.mk (show J (List.finRange l.length).reverse wr by have := HJ.out; rwa [List.take_of_length_le (by simp)] at this)
      gi_wp2
      go_end0
      exact ⟨⟨_, rfl⟩, .inl ⟨_, rfl, HJ2.out⟩⟩
    | succ j =>
      have ej : ((j + 1 : Nat) : Int) - 1 = (j : Int) := by omega
      rw [ej]
      have hjl : j < l.length := by omega
      have hjz : (j : Int) < (l.length : Int) := by omega
      obtain ⟨ad, eA, hb, hw⟩ := HF.out ⟨j, hjl⟩
      obtain ⟨h0, h1, h2, h3, h4⟩ := hw.kept (HK.out.low hb HWN.out)
      obtain ⟨fn, tmps, assign, body, hy, hR⟩ := HY.out _ ⟨j, hjl⟩ wr HJ.out (by simp; omega)
      simp only [wordEnc, wordV] at hy
      simp only at h0 h1 h2 h3 h4
      clear ej hw hb hcB
      generalize l.getD j z45 = x at hy h0 h1 h2 h3 h4
      generalize f ⟨j, hjl⟩ = q at hy h0 h1 h2 h3 h4
      cases eA
      gi_wp2
      refine hR.mono ?_
      rintro e W3 (⟨rfl, hJ3, hk3⟩ | ⟨rfl, hJx3⟩)
      · have H3 := Aside0.mk hJ3
        have K3 := Aside0.mk hk3
        clear hJ3 hk3 hy hR
        gi_wp2
        go_roundw
        case rel => exact ⟨j, by omega, by go_num, ⟨by rw [rev_take _ j hjl]; exact H3.out⟩, ⟨HK.out.trans K3.out⟩⟩
        case measure => simp [intOf]
      · have H3 := Aside0.mk hJx3
        clear hJx3 hy hR
        gi_wp2
        refine bodyPost_ret (results_none rfl _ _ _) rfl ?_
        exact ⟨⟨_, rfl⟩, .inr ⟨_, ⟨_, by rw [← rev_take _ j hjl]; exact List.take_append_drop _ _⟩, H3.out⟩⟩
end Go.Proofs.Ytpalbpakeokimaa.PK
