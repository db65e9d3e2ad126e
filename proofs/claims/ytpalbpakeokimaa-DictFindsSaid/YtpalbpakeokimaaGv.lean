/- An argument as a row reads it, opened: it is a reading of the printed kind. -/
import Derived.Test.YtpalbpakeokimaaK0
import Derived.Deep.Slices
import Derived.ChangeSame
import Derived.WideShapes
namespace Go.Proofs.Ytpalbpakeokimaa.PK
set_option linter.unusedVariables false
set_option linter.unusedSimpArgs false
open Go.Deep Go.RowKit Go.Proofs.YtpalbpakeokimaaW.PrintWords Go.Proofs.YtpalbpakeokimaaW.PrintLast Go.Proofs.YtpalbpakeokimaaW.PrintMore
section
variable {H : Type} (enc : TypeId × Value → H) (P : Program) (w : World) (base : Nat) (spare : Nat → Bool) (held : Bool)
/-- What reads at type t is of kind k, and I holds of it. -/
def Opens {α : Type} (k : Kd α) (I : α → Prop) (t : TypeId) : Prop :=
  k.sz = P.cellsOf t ∧ ∀ (fuel : Nat) (cs : List Value) (x : DataW H × List MemPlace), DataW.trod enc P w base spare held fuel t cs = some x → ∃ v : α, k.K w v cs ∧ I v
/-- the same of a struct's fields from cell 'off' on -/
def OpensF {α : Type} (k : Kd α) (I : α → Prop) (off : Nat) (fs : List Field) : Prop :=
  ∀ (fuel : Nat) (cs : List Value) (xs : List (DataW H × List MemPlace)), cs.length = off + k.sz → (fs.mapM fun f => DataW.trod enc P w base spare held fuel f.type ((cs.drop f.offset).take (P.cellsOf f.type))) = some xs → ∃ v : α, k.K w v (cs.drop off) ∧ I v
variable {enc P w base spare held}
theorem opens_int {t : TypeId} {kd : IntKind} (ht : P.underlying t = some (.int kd)) (hc : 1 = P.cellsOf t) : Opens enc P w base spare held (Kd.int kd) (fun n => (Lit.int kd n).wf = true) t := by
  refine ⟨hc, fun fuel cs x h => ?_⟩
  obtain ⟨n, rfl, _, hw⟩ := DataW.trod_int ht h
  exact ⟨n, rfl, hw⟩
theorem opens_string {t : TypeId} (ht : P.underlying t = some .string) (hc : 1 = P.cellsOf t) : Opens enc P w base spare held Kd.string (fun s => s.size ≤ maxLen) t := by
  refine ⟨hc, fun fuel cs x h => ?_⟩
  obtain ⟨s, rfl, _, hw⟩ := DataW.trod_string ht h
  exact ⟨s, rfl, hw⟩
theorem cells_get {a : Addr} {n : Nat} {cs : List Value} (h : w.cells? base a n = some cs) : cs.length = n ∧ ∀ i u, cs[i]? = some u → w.cell? (a.add i) = some u := by
  obtain ⟨_, h1, h2⟩ := World.cells?_some h
  refine ⟨h1, fun i u hu => ?_⟩
  have hi : i < n := by have := (List.getElem?_eq_some_iff.1 hu).1; omega
  rw [h2 i hi]
  exact hu
theorem opens_slice {α : Type} {d : Kd α} {I : α → Prop} {t e : TypeId} (q : Nat) (ht : P.underlying t = some (.slice e)) (hc : 1 = P.cellsOf t) (hd : Opens enc P w base spare held d I e) : Opens enc P w base spare held (Kd.slice q d) (fun l => l.length ≤ maxLen ∧ ∀ x ∈ l, I x) t := by
  refine ⟨hc, fun fuel cs x h => ?_⟩
  rcases open_slice ht h with ⟨rfl, _⟩ | ⟨a, len, cap, m, n, D, Pl, rfl, hb, hl, hm, hmm, _, hel⟩
  · exact ⟨[], ⟨none, 0, rfl, Nat.le_refl _, rfl, by simp, fun h => absurd h (Nat.lt_irrefl 0)⟩, by simp, by simp⟩
  · have hlm : len ≤ m := by rw [hmm]; split <;> omega
    have hex : ∀ i : Fin len, ∃ v : α, (∃ cs', w.cells? base (a.add (i.val * P.cellsOf e)) (P.cellsOf e) = some cs' ∧ d.K w v cs') ∧ I v := fun i => by
      obtain ⟨cs', h1, h2⟩ := hel i.val (by omega)
      obtain ⟨v, hv, hi⟩ := hd.2 n cs' _ h2
      exact ⟨v, ⟨cs', h1, hv⟩, hi⟩
    let f : Fin len → α := fun i => Classical.choose (hex i)
    have hf : ∀ i, (∃ cs', w.cells? base (a.add (i.val * P.cellsOf e)) (P.cellsOf e) = some cs' ∧ d.K w (f i) cs') ∧ I (f i) := fun i => Classical.choose_spec (hex i)
    refine ⟨List.ofFn f, ⟨some a, cap, by simp, by simpa using hl, by simp, ?_, fun _ => ⟨a, rfl, fun j p hj => ?_⟩⟩, by simp; omega, fun x hx => ?_⟩
    · simp; unfold maxLen at hm; omega
    · have hjl : j < len := by have := (List.getElem?_eq_some_iff.1 hj).1; simpa using this
      obtain ⟨⟨cs', h1, h2⟩, _⟩ := hf ⟨j, hjl⟩
      have hp : p = f ⟨j, hjl⟩ := by
        have := (List.getElem?_eq_some_iff.1 hj).2
        rw [← this]; simp
      obtain ⟨h3, h4⟩ := cells_get h1
      refine ⟨cs', by rw [hd.1]; exact h3, by rw [hp]; exact h2, fun i u hu => ?_⟩
      have := h4 i u hu
      rw [Deep.add_add] at this
      rw [hd.1]
      exact this
    · obtain ⟨i, rfl⟩ := (List.mem_ofFn).1 hx
      exact (hf i).2
theorem opens_iso {α β : Type} {d : Kd α} {I : α → Prop} {J : β → Prop} {t : TypeId} {f : β → α} (g : α → β) (hg : ∀ v, f (g v) = v) (hI : ∀ v, I v → J (g v)) (hd : Opens enc P w base spare held d I t) : Opens enc P w base spare held (Kd.iso d f) J t := by
  refine ⟨hd.1, fun fuel cs x h => ?_⟩
  obtain ⟨v, hv, hi⟩ := hd.2 fuel cs x h
  exact ⟨g v, (by show d.K w (f (g v)) cs; rw [hg]; exact hv), hI v hi⟩
theorem opensF_one {α : Type} {d : Kd α} {I : α → Prop} {f : Field} (off : Nat) (ho : f.offset = off) (hd : Opens enc P w base spare held d I f.type) : OpensF enc P w base spare held d I off [f] := by
  subst ho
  intro fuel cs xs hl h
  rw [List.mapM_cons] at h
  obtain ⟨y, hy, _⟩ := Option.bind_eq_some_iff.1 h
  have ht : (cs.drop f.offset).take (P.cellsOf f.type) = cs.drop f.offset := by
    apply List.take_of_length_le
    rw [List.length_drop, ← hd.1]
    omega
  rw [ht] at hy
  exact hd.2 fuel _ y hy
theorem opensF_cons {α β : Type} {d : Kd α} {d' : Kd β} {I : α → Prop} {J : β → Prop} {f : Field} {fs : List Field} (off off' : Nat) (ho : f.offset = off) (hn : off + P.cellsOf f.type = off') (hd : Opens enc P w base spare held d I f.type) (hf : OpensF enc P w base spare held d' J off' fs) :
    OpensF enc P w base spare held (Kd.pair d d') (fun v => I v.1 ∧ J v.2) off (f :: fs) := by
  subst ho
  subst hn
  intro fuel cs xs hl h
  rw [List.mapM_cons] at h
  obtain ⟨y, hy, h⟩ := Option.bind_eq_some_iff.1 h
  obtain ⟨ys, hys, _⟩ := Option.bind_eq_some_iff.1 h
  have hsz : (Kd.pair d d').sz = d.sz + d'.sz := rfl
  obtain ⟨v, hv, hi⟩ := hd.2 fuel _ y hy
  obtain ⟨v', hv', hj⟩ := hf fuel cs ys (by rw [hl, hsz, hd.1]; omega) hys
  refine ⟨(v, v'), ⟨_, _, ?_, hv, hv'⟩, hi, hj⟩
  rw [← List.drop_drop, List.take_append_drop]
theorem opens_struct {α : Type} {d : Kd α} {I : α → Prop} {t : TypeId} {fs : Array Field} (ht : P.underlying t = some (.struct fs)) (hc : d.sz = P.cellsOf t) (hf : OpensF enc P w base spare held d I 0 fs.toList) : Opens enc P w base spare held d I t := by
  refine ⟨hc, fun fuel cs x h => ?_⟩
  cases fuel with
  | zero => simp [DataW.trod] at h
  | succ fuel =>
    simp only [DataW.trod, ht] at h
    split at h
    · rename_i hl
      obtain ⟨xs, hxs, _⟩ := Option.map_eq_some_iff.1 h
      exact hf fuel cs xs (by rw [hl, hc]; omega) hxs
    · cases h
end
end Go.Proofs.Ytpalbpakeokimaa.PK
