/- tinder: a part of the proof, joined and pruned by wip/tools/prune.py out of: Gz -/
import Derived.Test.YtpalbpakeokimaaFGv
import Derived.SizedLaws
import Derived.Handed
namespace Go.Proofs.Ytpalbpakeokimaa.PK
set_option linter.unusedVariables false
set_option linter.unusedSimpArgs false
open Go.Deep Go.RowKit Go.Proofs.YtpalbpakeokimaaW.PrintWords Go.Proofs.YtpalbpakeokimaaW.PrintLast Go.Proofs.YtpalbpakeokimaaW.PrintMore
section
variable {H : Type} (enc : TypeId × Value → H) (P : Program) (w : World) (base : Nat) (spare : Nat → Bool) (held : Bool)
def Fit (l : List Nat) : Prop := l.all (· ≤ reachBytes) = true
theorem fit_append {a b : List Nat} (h : Fit (a ++ b)) : Fit a ∧ Fit b := by
  unfold Fit at *
  rw [List.all_append, Bool.and_eq_true] at h
  exact h
def OpensZ {α : Type} (k : Kd α) (I : α → Prop) (t : TypeId) : Prop :=
  k.sz = P.cellsOf t ∧ ∀ (fuel : Nat) (cs : List Value) (x : DataW H × List MemPlace), DataW.trod enc P w base spare held fuel t cs = some x → Fit (x.1.weights P t) → ∃ v : α, k.K w v cs ∧ I v
def OpensZF {α : Type} (k : Kd α) (I : α → Prop) (off : Nat) (fs : List Field) : Prop :=
  ∀ (fuel : Nat) (cs : List Value) (xs : List (DataW H × List MemPlace)), cs.length = off + k.sz → (fs.mapM fun f => DataW.trod enc P w base spare held fuel f.type ((cs.drop f.offset).take (P.cellsOf f.type))) = some xs → Fit (DataW.weightsEach P (fs.map (·.type)) (xs.map (·.1))) → ∃ v : α, k.K w v (cs.drop off) ∧ I v
variable {enc P w base spare held}
theorem opensz_int {t : TypeId} {kd : IntKind} (ht : P.underlying t = some (.int kd)) (hc : 1 = P.cellsOf t) : OpensZ enc P w base spare held (Kd.int kd) (fun n => (Lit.int kd n).wf = true) t := by
  refine ⟨hc, fun fuel cs x h _ => ?_⟩
  obtain ⟨n, rfl, _, hw⟩ := DataW.trod_int ht h
  exact ⟨n, rfl, hw⟩
theorem opensz_string {t : TypeId} (ht : P.underlying t = some .string) (hc : 1 = P.cellsOf t) : OpensZ enc P w base spare held Kd.string (fun s => s.size ≤ maxLen) t := by
  refine ⟨hc, fun fuel cs x h _ => ?_⟩
  obtain ⟨s, rfl, _, hw⟩ := DataW.trod_string ht h
  exact ⟨s, rfl, hw⟩
theorem fit_all {e : TypeId} {l : List (DataW H)} (h : Fit (DataW.weightsAll P e l)) : ∀ d ∈ l, Fit (d.weights P e) := by
  induction l with
  | nil => intro d hd; cases hd
  | cons a r ih =>
    intro d hd
    simp only [DataW.weightsAll] at h
    have h2 := fit_append h
    rcases List.mem_cons.1 hd with rfl | hd
    · exact h2.1
    · exact ih h2.2 d hd
theorem opensz_slice {α : Type} {d : Kd α} {I : α → Prop} {t e : TypeId} (q : Nat) (bytes : Nat) (hby : P.bytesOf e = bytes) (ht : P.underlying t = some (.slice e)) (hc : 1 = P.cellsOf t) (hd : OpensZ enc P w base spare held d I e) : OpensZ enc P w base spare held (Kd.slice q d) (fun l => (l.length ≤ maxLen ∧ l.length * bytes ≤ reachBytes) ∧ ∀ x ∈ l, I x) t := by
  refine ⟨hc, fun fuel cs x h hf => ?_⟩
  rcases open_slice ht h with ⟨rfl, _⟩ | ⟨a, len, cap, m, n, D, Pl, rfl, hb, hl, hm, hmm, hx, hel⟩
  · exact ⟨[], ⟨none, 0, rfl, Nat.le_refl _, rfl, by simp, fun h => absurd h (Nat.lt_irrefl 0)⟩, by simp, by simp⟩
  · have hlm : len ≤ m := by rw [hmm]; split <;> omega
    subst hx
    simp only [DataW.weights, ht] at hf
    unfold Fit at hf
    rw [List.all_cons, Bool.and_eq_true, List.all_append, Bool.and_eq_true] at hf
    obtain ⟨hf1, hf2, _⟩ := hf
    have hf3 := fit_all (P := P) (e := e) (l := (List.range len).map D) hf2
    have hlb : len * bytes ≤ reachBytes := by
      have h1 : ((List.map D (List.range len)).length + (List.map (fun j => D (len + j)) (List.range (m - len))).length) * P.bytesOf e ≤ reachBytes := by simpa using hf1
      rw [hby, List.length_map, List.length_range] at h1
      exact Nat.le_trans (Nat.mul_le_mul_right _ (Nat.le_add_right _ _)) h1
    have hex : ∀ i : Fin len, ∃ v : α, (∃ cs', w.cells? base (a.add (i.val * P.cellsOf e)) (P.cellsOf e) = some cs' ∧ d.K w v cs') ∧ I v := fun i => by
      obtain ⟨cs', h1, h2⟩ := hel i.val (by omega)
      obtain ⟨v, hv, hi⟩ := hd.2 n cs' _ h2 (hf3 (D i.val) (List.mem_map.2 ⟨i.val, List.mem_range.2 i.isLt, rfl⟩))
      exact ⟨v, ⟨cs', h1, hv⟩, hi⟩
    let f : Fin len → α := fun i => Classical.choose (hex i)
    have hf : ∀ i, (∃ cs', w.cells? base (a.add (i.val * P.cellsOf e)) (P.cellsOf e) = some cs' ∧ d.K w (f i) cs') ∧ I (f i) := fun i => Classical.choose_spec (hex i)
    refine ⟨List.ofFn f, ⟨some a, cap, by simp, by simpa using hl, by simp, ?_, fun _ => ⟨a, rfl, fun j p hj => ?_⟩⟩, ⟨by simp; omega, by simpa using hlb⟩, fun x hx => ?_⟩
    · simp; unfold maxLen at hm; omega
    · have hjl : j < len := by have := (List.getElem?_eq_some_iff.1 hj).1; simpa using this
      obtain ⟨⟨cs', h1, h2⟩, _⟩ := hf ⟨j, hjl⟩
      have hp : p = f ⟨j, hjl⟩ := by
        have := (List.getElem?_eq_some_iff.1 hj).2
        rw [← this]; simp
      obtain ⟨h3, h4⟩ := cells_get h1
      refine ⟨cs', by rw [hd.1]; exact h3, by rw [hp]; exact h2, fun i u hu => ?_⟩
      have := h4 i u hu
      rw [Deep.add_add] at this
      rw [hd.1]
      exact this
    · obtain ⟨i, rfl⟩ := (List.mem_ofFn).1 hx
      exact (hf i).2
theorem opensz_iso {α β : Type} {d : Kd α} {I : α → Prop} {J : β → Prop} {t : TypeId} {f : β → α} (g : α → β) (hg : ∀ v, f (g v) = v) (hI : ∀ v, I v → J (g v)) (hd : OpensZ enc P w base spare held d I t) : OpensZ enc P w base spare held (Kd.iso d f) J t := by
  refine ⟨hd.1, fun fuel cs x h hf => ?_⟩
  obtain ⟨v, hv, hi⟩ := hd.2 fuel cs x h hf
  exact ⟨g v, (by show d.K w (f (g v)) cs; rw [hg]; exact hv), hI v hi⟩
theorem openszF_one {α : Type} {d : Kd α} {I : α → Prop} {f : Field} (off : Nat) (ho : f.offset = off) (hd : OpensZ enc P w base spare held d I f.type) : OpensZF enc P w base spare held d I off [f] := by
  subst ho
  intro fuel cs xs hl h hf
  rw [List.mapM_cons] at h
  obtain ⟨y, hy, h⟩ := Option.bind_eq_some_iff.1 h
  obtain ⟨ys, hys, h⟩ := Option.bind_eq_some_iff.1 h
  have hxs : y :: ys = xs := Option.some.inj h
  subst hxs
  have ht : (cs.drop f.offset).take (P.cellsOf f.type) = cs.drop f.offset := by
    apply List.take_of_length_le
    rw [List.length_drop, ← hd.1]
    omega
  rw [ht] at hy
  simp only [List.map_cons, DataW.weightsEach] at hf
  exact hd.2 fuel _ y hy (fit_append hf).1
theorem openszF_cons {α β : Type} {d : Kd α} {d' : Kd β} {I : α → Prop} {J : β → Prop} {f : Field} {fs : List Field} (off off' : Nat) (ho : f.offset = off) (hn : off + P.cellsOf f.type = off') (hd : OpensZ enc P w base spare held d I f.type) (hf : OpensZF enc P w base spare held d' J off' fs) :
    OpensZF enc P w base spare held (Kd.pair d d') (fun v => I v.1 ∧ J v.2) off (f :: fs) := by
  subst ho
  subst hn
  intro fuel cs xs hl h hw
  rw [List.mapM_cons] at h
  obtain ⟨y, hy, h⟩ := Option.bind_eq_some_iff.1 h
  obtain ⟨ys, hys, h⟩ := Option.bind_eq_some_iff.1 h
  have hxs : y :: ys = xs := Option.some.inj h
  subst hxs
  have hsz : (Kd.pair d d').sz = d.sz + d'.sz := rfl
  simp only [List.map_cons, DataW.weightsEach] at hw
  obtain ⟨hw1, hw2⟩ := fit_append hw
  obtain ⟨v, hv, hi⟩ := hd.2 fuel _ y hy hw1
  obtain ⟨v', hv', hj⟩ := hf fuel cs ys (by rw [hl, hsz, hd.1]; omega) hys hw2
  refine ⟨(v, v'), ⟨_, _, ?_, hv, hv'⟩, hi, hj⟩
  rw [← List.drop_drop, List.take_append_drop]
theorem opensz_struct {α : Type} {d : Kd α} {I : α → Prop} {t : TypeId} {fs : Array Field} (ht : P.underlying t = some (.struct fs)) (hc : d.sz = P.cellsOf t) (hf : OpensZF enc P w base spare held d I 0 fs.toList) : OpensZ enc P w base spare held d I t := by
  refine ⟨hc, fun fuel cs x h hw => ?_⟩
  cases fuel with
  | zero => simp [DataW.trod] at h
  | succ fuel =>
    simp only [DataW.trod, ht] at h
    split at h
    · rename_i hl
      obtain ⟨xs, hxs, hx⟩ := Option.map_eq_some_iff.1 h
      rw [← hx] at hw
      simp only [DataW.weights, ht] at hw
      exact hf fuel cs xs (by rw [hl, hc]; omega) hxs hw
    · cases h
end
section
variable {H : Type} {enc : TypeId × Value → H} {w : World} {base : Nat} {spare : Nat → Bool} {held : Bool}
abbrev Jrow {α : Type} (b : Nat) (I : α → Prop) (l : List α) : Prop := (l.length ≤ maxLen ∧ l.length * b ≤ reachBytes) ∧ ∀ x ∈ l, I x
abbrev J57 (x : S57) : Prop := Iint .i64 x.f0 ∧ Iint .u32 x.f1
abbrev J45 (x : S45) : Prop := Istr x.f0 ∧ Iint .i64 x.f1 ∧ Iint .i64 x.f2 ∧ Iint .u32 x.f3 ∧ Jrow 16 J57 x.f4
abbrev J102 (x : S102) : Prop := Istr x.f0 ∧ Jrow 1 (Iint .u8) x.f1
abbrev J92 (x : S92) : Prop := Istr x.f0 ∧ Jrow 4 (Iint .u32) x.f1 ∧ Iint .i64 x.f2 ∧ Jrow 40 J102 x.f3 ∧ Jrow 4 (Iint .u32) x.f4
abbrev J80 (x : S80) : Prop := Iint .i64 x.f0 ∧ Iint .i64 x.f1 ∧ Istr x.f2 ∧ Jrow 4 (Iint .u32) x.f3
set_option maxRecDepth 100000 in
theorem opensz57 : OpensZ enc Try.prog w base spare held k57 J57 57 :=
  opensz_iso (fun v => ⟨v.1, v.2⟩) (fun _ => rfl) (fun _ h => h) (opensz_struct Try.underlying57 (by kernel_rfl) (openszF_cons 0 1 rfl (by kernel_rfl) (opensz_int Try.underlying3 (by kernel_rfl)) (openszF_one 1 rfl (opensz_int Try.underlying31 (by kernel_rfl)))))
set_option maxRecDepth 100000 in
theorem opensz45 : OpensZ enc Try.prog w base spare held k45 J45 45 :=
  opensz_iso (fun v => ⟨v.1, v.2.1, v.2.2.1, v.2.2.2.1, v.2.2.2.2⟩) (fun _ => rfl) (fun _ h => h) (opensz_struct Try.underlying45 (by kernel_rfl) (openszF_cons 0 1 rfl (by kernel_rfl) (opensz_string Try.underlying9 (by kernel_rfl)) (openszF_cons 1 2 rfl (by kernel_rfl) (opensz_int Try.underlying3 (by kernel_rfl)) (openszF_cons 2 3 rfl (by kernel_rfl) (opensz_int Try.underlying3 (by kernel_rfl)) (openszF_cons 3 4 rfl (by kernel_rfl) (opensz_int Try.underlying31 (by kernel_rfl)) (openszF_one 4 rfl (opensz_slice 57 16 (by kernel_rfl) Try.underlying22 (by kernel_rfl) opensz57)))))))
set_option maxRecDepth 100000 in
theorem opensz102 : OpensZ enc Try.prog w base spare held k102 J102 102 :=
  opensz_iso (fun v => ⟨v.1, v.2⟩) (fun _ => rfl) (fun _ h => h) (opensz_struct Try.underlying102 (by kernel_rfl) (openszF_cons 0 1 rfl (by kernel_rfl) (opensz_string Try.underlying9 (by kernel_rfl)) (openszF_one 1 rfl (opensz_slice 5 1 (by kernel_rfl) Try.underlying28 (by kernel_rfl) (opensz_int Try.underlying5 (by kernel_rfl))))))
set_option maxRecDepth 100000 in
theorem opensz92 : OpensZ enc Try.prog w base spare held k92 J92 92 :=
  opensz_iso (fun v => ⟨v.1, v.2.1, v.2.2.1, v.2.2.2.1, v.2.2.2.2⟩) (fun _ => rfl) (fun _ h => h) (opensz_struct Try.underlying92 (by kernel_rfl) (openszF_cons 0 1 rfl (by kernel_rfl) (opensz_string Try.underlying9 (by kernel_rfl)) (openszF_cons 1 2 rfl (by kernel_rfl) (opensz_slice 31 4 (by kernel_rfl) Try.underlying27 (by kernel_rfl) (opensz_int Try.underlying31 (by kernel_rfl))) (openszF_cons 2 3 rfl (by kernel_rfl) (opensz_int Try.underlying3 (by kernel_rfl)) (openszF_cons 3 4 rfl (by kernel_rfl) (opensz_slice 102 40 (by kernel_rfl) Try.underlying90 (by kernel_rfl) opensz102) (openszF_one 4 rfl (opensz_slice 31 4 (by kernel_rfl) Try.underlying27 (by kernel_rfl) (opensz_int Try.underlying31 (by kernel_rfl)))))))))
set_option maxRecDepth 100000 in
theorem opensz80 : OpensZ enc Try.prog w base spare held k80 J80 80 :=
  opensz_iso (fun v => ⟨v.1, v.2.1, v.2.2.1, v.2.2.2⟩) (fun _ => rfl) (fun _ h => h) (opensz_struct Try.underlying80 (by kernel_rfl) (openszF_cons 0 1 rfl (by kernel_rfl) (opensz_int Try.underlying3 (by kernel_rfl)) (openszF_cons 1 2 rfl (by kernel_rfl) (opensz_int Try.underlying3 (by kernel_rfl)) (openszF_cons 2 3 rfl (by kernel_rfl) (opensz_string Try.underlying9 (by kernel_rfl)) (openszF_one 3 rfl (opensz_slice 31 4 (by kernel_rfl) Try.underlying27 (by kernel_rfl) (opensz_int Try.underlying31 (by kernel_rfl))))))))
set_option maxRecDepth 100000 in
theorem opensz35 : OpensZ enc Try.prog w base spare held (Kd.pair (Kd.slice 31 (Kd.int .u32)) (Kd.pair (Kd.slice 5 (Kd.int .u8)) (Kd.pair (Kd.slice 45 k45) (Kd.pair (Kd.slice 3 (Kd.int .i64)) (Kd.pair (Kd.int .u32) (Kd.pair (Kd.slice 92 k92) (Kd.pair (Kd.int .i64) (Kd.pair (Kd.slice 80 k80) (Kd.pair (Kd.int .i64) Kd.string))))))))) (fun v => Jrow 4 (Iint .u32) v.1 ∧ Jrow 1 (Iint .u8) v.2.1 ∧ Jrow 64 J45 v.2.2.1 ∧ Jrow 8 (Iint .i64) v.2.2.2.1 ∧ Iint .u32 v.2.2.2.2.1 ∧ Jrow 96 J92 v.2.2.2.2.2.1 ∧ Iint .i64 v.2.2.2.2.2.2.1 ∧ Jrow 56 J80 v.2.2.2.2.2.2.2.1 ∧ Iint .i64 v.2.2.2.2.2.2.2.2.1 ∧ Istr v.2.2.2.2.2.2.2.2.2) 35 :=
  opensz_struct Try.underlying35 (by kernel_rfl) (openszF_cons 0 1 rfl (by kernel_rfl) (opensz_slice 31 4 (by kernel_rfl) Try.underlying27 (by kernel_rfl) (opensz_int Try.underlying31 (by kernel_rfl))) (openszF_cons 1 2 rfl (by kernel_rfl) (opensz_slice 5 1 (by kernel_rfl) Try.underlying28 (by kernel_rfl) (opensz_int Try.underlying5 (by kernel_rfl))) (openszF_cons 2 3 rfl (by kernel_rfl) (opensz_slice 45 64 (by kernel_rfl) Try.underlying29 (by kernel_rfl) opensz45) (openszF_cons 3 4 rfl (by kernel_rfl) (opensz_slice 3 8 (by kernel_rfl) Try.underlying30 (by kernel_rfl) (opensz_int Try.underlying3 (by kernel_rfl))) (openszF_cons 4 5 rfl (by kernel_rfl) (opensz_int Try.underlying31 (by kernel_rfl)) (openszF_cons 5 6 rfl (by kernel_rfl) (opensz_slice 92 96 (by kernel_rfl) Try.underlying32 (by kernel_rfl) opensz92) (openszF_cons 6 7 rfl (by kernel_rfl) (opensz_int Try.underlying3 (by kernel_rfl)) (openszF_cons 7 8 rfl (by kernel_rfl) (opensz_slice 80 56 (by kernel_rfl) Try.underlying33 (by kernel_rfl) opensz80) (openszF_cons 8 9 rfl (by kernel_rfl) (opensz_int Try.underlying3 (by kernel_rfl)) (openszF_one 9 rfl (opensz_string Try.underlying9 (by kernel_rfl))))))))))))
set_option linter.constructorNameAsVariable false
set_option maxRecDepth 100000 in
theorem openz_machine {v : Value} {d : DataW H} {ps : List MemPlace} {r : Reach} {b0 : Nat} (hv : Value.okWide Try.prog w r b0 35 v) (h : DataW.Trod enc Try.prog w base spare held 35 v d ps) (hz : Fit (d.weights Try.prog 35)) :
    ∃ (A0 : Option Addr) (c0 : Nat) (l0 : List Int) (A1 : Option Addr) (c1 : Nat) (l1 : List Int) (A2 : Option Addr) (c2 : Nat) (l2 : List S45) (A3 : Option Addr) (c3 : Nat) (l3 : List Int) (a4 : Int) (A5 : Option Addr) (c5 : Nat) (l5 : List S92) (a6 : Int) (A7 : Option Addr) (c7 : Nat) (l7 : List S80) (a8 : Int) (a9 : ByteArray),
      v = .agg #[.slice A0 l0.length c0, .slice A1 l1.length c1, .slice A2 l2.length c2, .slice A3 l3.length c3, .int .u32 a4, .slice A5 l5.length c5, .int .i64 a6, .slice A7 l7.length c7, .int .i64 a8, .string a9] ∧
      (Kd.C (Kd.int .u32) w A0 l0.length l0 ∧ l0.length ≤ c0) ∧ (Kd.C (Kd.int .u8) w A1 l1.length l1 ∧ l1.length ≤ c1) ∧ (Kd.C k45 w A2 l2.length l2 ∧ l2.length ≤ c2) ∧ (Kd.C (Kd.int .i64) w A3 l3.length l3 ∧ l3.length ≤ c3) ∧ (Kd.C k92 w A5 l5.length l5 ∧ l5.length ≤ c5) ∧ (Kd.C k80 w A7 l7.length l7 ∧ l7.length ≤ c7) ∧
      Jrow 4 (Iint .u32) l0 ∧ Jrow 1 (Iint .u8) l1 ∧ Jrow 64 J45 l2 ∧ Jrow 8 (Iint .i64) l3 ∧ Iint .u32 a4 ∧ Jrow 96 J92 l5 ∧ Iint .i64 a6 ∧ Jrow 56 J80 l7 ∧ Iint .i64 a8 ∧ Istr a9 := by
  obtain ⟨cs, rfl, _⟩ := Go.WideShapes.okWide_struct Try.underlying35 hv
  obtain ⟨fuel, hf⟩ := h
  obtain ⟨⟨l0, l1, l2, l3, a4, l5, a6, l7, a8, a9⟩, hK, hI⟩ := opensz35.2 fuel _ _ hf hz
  obtain ⟨_, _, hcs, ⟨A0, c0, rfl, g0, r0⟩, ⟨_, _, rfl, ⟨A1, c1, rfl, g1, r1⟩, ⟨_, _, rfl, ⟨A2, c2, rfl, g2, r2⟩, ⟨_, _, rfl, ⟨A3, c3, rfl, g3, r3⟩, ⟨_, _, rfl, rfl, ⟨_, _, rfl, ⟨A5, c5, rfl, g5, r5⟩, ⟨_, _, rfl, rfl, ⟨_, _, rfl, ⟨A7, c7, rfl, g7, r7⟩, ⟨_, _, rfl, rfl, rfl⟩⟩⟩⟩⟩⟩⟩⟩⟩ := hK
  have hcs' : cs.toList = _ := hcs
  obtain rfl : cs = #[.slice A0 l0.length c0, .slice A1 l1.length c1, .slice A2 l2.length c2, .slice A3 l3.length c3, .int .u32 a4, .slice A5 l5.length c5, .int .i64 a6, .slice A7 l7.length c7, .int .i64 a8, .string a9] := Array.ext' hcs'
  exact ⟨A0, c0, l0, A1, c1, l1, A2, c2, l2, A3, c3, l3, a4, A5, c5, l5, a6, A7, c7, l7, a8, a9, rfl, ⟨r0, g0⟩, ⟨r1, g1⟩, ⟨r2, g2⟩, ⟨r3, g3⟩, ⟨r5, g5⟩, ⟨r7, g7⟩, hI⟩
end
end Go.Proofs.Ytpalbpakeokimaa.PK
