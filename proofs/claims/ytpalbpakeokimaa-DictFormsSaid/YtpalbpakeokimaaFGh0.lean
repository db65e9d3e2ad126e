/- tinder: a part of the proof, joined and pruned by wip/tools/prune.py out of: Gh0 -/
import Derived.Test.YtpalbpakeokimaaFGg
import Derived.Laws.OwnMore
namespace Go.Proofs.Ytpalbpakeokimaa.PK
set_option linter.unusedVariables false
set_option linter.unusedSimpArgs false
open Go.RowKit Go.Proofs.YtpalbpakeokimaaW.PrintWords Go.Proofs.YtpalbpakeokimaaW.PrintLast Go.Proofs.YtpalbpakeokimaaW.PrintMore
def seg (sz : Nat) (cur : List Value) (j : Nat) : List Value := (cur.drop (j * sz)).take sz
theorem seg_get {sz : Nat} {cur : List Value} {j i : Nat} (hi : i < sz) : (seg sz cur j)[i]? = cur[j * sz + i]? := by
  unfold seg
  rw [List.getElem?_take_of_lt hi, List.getElem?_drop]
theorem seg_set_same {sz : Nat} {cur : List Value} {j i : Nat} (hi : i < sz) (u : Value) : seg sz (cur.set (j * sz + i) u) j = (seg sz cur j).set i u := by
  apply List.ext_getElem?
  intro k
  by_cases hk : k < sz
  · rw [seg_get hk, List.getElem?_set, List.getElem?_set, seg_get hk]
    by_cases e : i = k
    · subst e
      rw [if_pos rfl, if_pos rfl]
      by_cases hl : j * sz + i < cur.length
      · have : i < (seg sz cur j).length := by unfold seg; rw [List.length_take, List.length_drop]; omega
        rw [if_pos hl, if_pos this]
      · have : ¬ i < (seg sz cur j).length := by unfold seg; rw [List.length_take, List.length_drop]; omega
        rw [if_neg hl, if_neg this]
    · rw [if_neg (by omega), if_neg e]
  · have h1 : (seg sz (cur.set (j * sz + i) u) j).length ≤ k := by unfold seg; rw [List.length_take]; omega
    have h2 : ((seg sz cur j).set i u).length ≤ k := by rw [List.length_set]; unfold seg; rw [List.length_take]; omega
    rw [List.getElem?_eq_none h1, List.getElem?_eq_none h2]
theorem seg_set_other {sz : Nat} {cur : List Value} {j j' i : Nat} (hi : i < sz) (hne : j' ≠ j) (u : Value) : seg sz (cur.set (j * sz + i) u) j' = seg sz cur j' := by
  apply List.ext_getElem?
  intro k
  by_cases hk : k < sz
  · rw [seg_get hk, List.getElem?_set, seg_get hk]
    rw [if_neg]
    intro e
    apply hne
    have h1 : (j * sz + i) / sz = j := by rw [Nat.add_comm, Nat.add_mul_div_right _ _ (by omega), Nat.div_eq_of_lt hi, Nat.zero_add]
    have h2 : (j' * sz + k) / sz = j' := by rw [Nat.add_comm, Nat.add_mul_div_right _ _ (by omega), Nat.div_eq_of_lt hk, Nat.zero_add]
    rw [← h1, ← h2, e]
  · have h1 : (seg sz (cur.set (j * sz + i) u) j').length ≤ k := by unfold seg; rw [List.length_take]; omega
    have h2 : (seg sz cur j').length ≤ k := by unfold seg; rw [List.length_take]; omega
    rw [List.getElem?_eq_none h1, List.getElem?_eq_none h2]
def RowAt (W : World) (g e sz n : Nat) (cap : Nat) (cur : List Value) : Prop := W.heap[g]? = some (.cells cur.toArray e (0, 0)) ∧ n ≤ cap ∧ cap ≤ maxLen ∧ cur.length = cap * sz
theorem RowAt.kept {W W' : World} {g e sz n cap : Nat} {cur : List Value} (h : RowAt W g e sz n cap cur) (hk : W'.heap[g]? = W.heap[g]?) : RowAt W' g e sz n cap cur := ⟨hk.trans h.1, h.2⟩
theorem RowAt.set {W : World} {g e sz n cap : Nat} {cur : List Value} (h : RowAt W g e sz n cap cur) (k : Nat) (u : Value) : RowAt (W.setCell ⟨g, k, none⟩ u) g e sz n cap (cur.set k u) :=
  ⟨blk_put h.1 k u (by simp), h.2.1, h.2.2.1, by rw [List.length_set]; exact h.2.2.2⟩
theorem RowAt.cell {W : World} {g e sz n cap : Nat} {cur : List Value} (h : RowAt W g e sz n cap cur) {k : Nat} {u : Value} (hu : cur[k]? = some u) : W.cell? ⟨g, k, none⟩ = some u := by
  rw [blk_cell h.1]
  simpa using hu
theorem RowAt.frozen {W : World} {g e sz n cap : Nat} {cur : List Value} (h : RowAt W g e sz n cap cur) (k : Nat) : W.frozen? ⟨g, k, none⟩ = false := blk_frozen h.1 k
theorem RowAt.own {W : World} {g e sz n cap base : Nat} {cur : List Value} (h : RowAt W g e sz n cap cur) (hb : base ≤ g) : W.ownsRow base e sz (.slice (some ⟨g, 0, none⟩) n cap) n (cur.take (n * sz)) := by
  obtain ⟨h1, h2, h3, h4⟩ := h
  refine ⟨?_, .inr ⟨g, cap, cur.toArray, rfl, hb, h1, h2, h3, by simpa using h4, by simp⟩⟩
  rw [List.length_take, h4]
  exact Nat.min_eq_left (Nat.mul_le_mul_right _ h2)
theorem rowAt_of_own {W : World} {base e sz n : Nat} {v : Value} {xs : List Value} (h : W.ownsRow base e sz v n xs) (hn : v ≠ .slice none 0 0) : ∃ g cap cur, v = .slice (some ⟨g, 0, none⟩) n cap ∧ base ≤ g ∧ RowAt W g e sz n cap cur ∧ cur.take (n * sz) = xs := by
  rcases h.2 with ⟨hv, _⟩ | ⟨g, cap, cur, hv, hb, h1, h2, h3, h4, h5⟩
  · exact absurd hv hn
  · exact ⟨g, cap, cur.toList, hv, hb, ⟨by simpa using h1, h2, h3, by simpa using h4⟩, h5⟩
end Go.Proofs.Ytpalbpakeokimaa.PK
namespace Go.Proofs.Ytpalbpakeokimaa.PK
set_option linter.unusedVariables false
set_option linter.unusedSimpArgs false
open Go.RowKit Go.Proofs.YtpalbpakeokimaaW.PrintWords Go.Proofs.YtpalbpakeokimaaW.PrintLast Go.Proofs.YtpalbpakeokimaaW.PrintMore
section
variable {α : Type} {d : Kd α} {e : Nat} {w W W1 : World} {base : Nat} {ok : Nat → Prop} {f : Nat → Nat} {v : Value} {l : List α} {kk : Nat} {inner : List Value}
def Half (d : Kd α) (e : Nat) (w W : World) (base : Nat) (ok : Nat → Prop) (f : Nat → Nat) (v : Value) (l : List α) (kk : Nat) (inner : List Value) : Prop :=
  W.ownsRow base e d.sz v l.length inner ∧ inner.length = l.length * d.sz ∧ (∀ k, v.ownBlock = some k → ok k)
  ∧ (∀ j x, j < kk → l[j]? = some x → d.M W base (fun k => (ok k ∧ some k ≠ v.ownBlock) ∧ f k = j) x (seg d.sz inner j))
  ∧ (∀ j x, kk ≤ j → l[j]? = some x → d.K w x (seg d.sz inner j))
theorem Half.start (f : Nat → Nat) (ho : W.ownsRow base e d.sz v l.length inner) (hr : Reps (d.K w) d.sz l inner) (hok : ∀ k, v.ownBlock = some k → ok k) : Half d e w W base ok f v l 0 inner :=
  ⟨ho, hr.1, hok, fun j x hj => absurd hj (Nat.not_lt_zero _), fun j x _ hx => hr.2 j x hx⟩
theorem Half.done (h : Half d e w W base ok f v l l.length inner) : Kd.S d e W base ok v l := by
  obtain ⟨ho, hl, hok, hd, _⟩ := h
  refine ⟨f, hok, inner, by rw [List.length_zipIdx]; exact ho, by rw [List.length_zipIdx]; exact hl, fun j p hj => ?_⟩
  obtain ⟨x, i⟩ := p
  rw [List.getElem?_zipIdx] at hj
  obtain ⟨y, hy, hyx⟩ := Option.map_eq_some_iff.1 hj
  rw [Nat.zero_add] at hyx
  cases hyx
  exact hd j x (List.getElem?_eq_some_iff.1 hy).1 hy
theorem Half.move (h : Half d e w W base ok f v l kk inner) (hm : ∀ k, ok k → k < W.heap.size → W1.heap[k]? = W.heap[k]?) : Half d e w W1 base ok f v l kk inner := by
  obtain ⟨ho, hl, hok, hd, hr⟩ := h
  exact ⟨own_move ho (fun k hk => hm k (hok k hk) (own_lt ho k hk)), hl, hok, fun j x hj hx => Kd.M_step (hd j x hj hx) (fun k hk hlt => hm k hk.1.1 hlt), hr⟩
theorem Half.below (h : Half d e w W base ok f v l kk inner) (hb : Below W.heap.size W W1) : Half d e w W1 base ok f v l kk inner := h.move (fun k _ hk => hb.block k hk)
theorem Half.form (h : Half d e w W base ok f v l kk inner) {x : α} (hx : l[kk]? = some x) : ∃ g cap, v = .slice (some ⟨g, 0, none⟩) l.length cap ∧ base ≤ g ∧ g < W.heap.size := by
  have hlt := (List.getElem?_eq_some_iff.1 hx).1
  rcases h.1.2 with ⟨_, hv⟩ | ⟨g, cap, cur, hv, hb, hh, _⟩
  · have h1 := h.1.1
    have h2 := h.2.1
    omega
  · exact ⟨g, cap, hv, hb, blk_lt hh⟩
theorem Half.read {g cap : Nat} (h : Half d e w W base ok f (.slice (some ⟨g, 0, none⟩) l.length cap) l kk inner) {x : α} (hx : l[kk]? = some x) : d.K w x (seg d.sz inner kk) ∧ ∀ i, i < d.sz → W.cell? ⟨g, kk * d.sz + i, none⟩ = (seg d.sz inner kk)[i]? := by
  have hlt := (List.getElem?_eq_some_iff.1 hx).1
  refine ⟨h.2.2.2.2 kk x (Nat.le_refl _) hx, fun i hi => ?_⟩
  rw [seg_get hi]
  refine h.1.cellAt _ ?_
  have : kk * d.sz + d.sz ≤ l.length * d.sz := by rw [← Nat.succ_mul]; exact Nat.mul_le_mul_right _ hlt
  omega
theorem Half.frozen {g cap : Nat} (h : Half d e w W base ok f (.slice (some ⟨g, 0, none⟩) l.length cap) l kk inner) (i : Nat) : W.frozen? ⟨g, i, none⟩ = false := h.1.frozenAt _
theorem ownsRow_put {n g cap sz : Nat} {xs : List Value} (h : W.ownsRow base e sz (.slice (some ⟨g, 0, none⟩) n cap) n xs) (j : Nat) (u : Value) : (W.setCell ⟨g, j, none⟩ u).ownsRow base e sz (.slice (some ⟨g, 0, none⟩) n cap) n (xs.set j u) := (h.stored j u).1
theorem Half.round {g cap : Nat} (h : Half d e w W base ok f (.slice (some ⟨g, 0, none⟩) l.length cap) l kk inner) (hb : Below W.heap.size W W1) {x : α} (hx : l[kk]? = some x) {i : Nat} (hi : i < d.sz) (u : Value)
    (hM : d.M (W1.setCell ⟨g, kk * d.sz + i, none⟩ u) base (fun k => ok k ∧ W.heap.size ≤ k) x ((seg d.sz inner kk).set i u)) :
    Half d e w (W1.setCell ⟨g, kk * d.sz + i, none⟩ u) base ok (fun k => if k < W.heap.size then f k else kk) (.slice (some ⟨g, 0, none⟩) l.length cap) l (kk + 1) (inner.set (kk * d.sz + i) u) := by
  have hg : g < W.heap.size := own_lt h.1 g rfl
  obtain ⟨ho, hl, hok, hd, hr⟩ := h
  have ho1 : W1.ownsRow base e d.sz (.slice (some ⟨g, 0, none⟩) l.length cap) l.length inner := own_move ho (fun k hk => hb.block k (own_lt ho k hk))
  refine ⟨ownsRow_put ho1 _ _, by rw [List.length_set]; exact hl, hok, fun j y hj hy => ?_, fun j y hj hy => ?_⟩
  · by_cases hjk : j = kk
    · subst hjk
      obtain rfl : x = y := by rw [hx] at hy; exact Option.some.inj hy
      rw [seg_set_same hi]
      refine d.M_mono (fun k hk => ⟨⟨hk.1, ?_⟩, ?_⟩) hM
      · simp [Value.ownBlock]; have := hk.2; omega
      · show (if k < W.heap.size then f k else j) = j
        rw [if_neg (by have := hk.2; omega)]
    · rw [seg_set_other hi hjk]
      have h1 := d.M_bound (hd j y (by omega) hy)
      refine d.M_mono (fun k hk => ⟨hk.1.1, ?_⟩) (d.M_move (fun k hk => ?_) h1)
      · show (if k < W.heap.size then f k else kk) = j
        rw [if_pos hk.2.2.1]
        exact hk.1.2
      · have hne : k ≠ g := by
          have := hk.1.1.2
          simpa [Value.ownBlock] using this
        rw [Below.heap_setCell _ _ _ _ hne]
        exact hb.block k hk.2.2.1
  · rw [seg_set_other hi (by omega)]
    exact hr j y (by omega) hy
end
end Go.Proofs.Ytpalbpakeokimaa.PK
