/- tinder: a part of the proof, joined and pruned by wip/tools/prune.py out of: Gp -/
import Derived.Test.YtpalbpakeokimaaFK0
namespace Go.Proofs.Ytpalbpakeokimaa.PK
set_option linter.unusedVariables false
set_option linter.unusedSimpArgs false
open Go.RowKit Go.Proofs.YtpalbpakeokimaaW.PrintWords Go.Proofs.YtpalbpakeokimaaW.PrintLast Go.Proofs.YtpalbpakeokimaaW.PrintMore
def primV (p : S64) : Value := .agg #[.string p.f0, .int .i64 p.f1]
inductive Builds : Nat → List S64 → List Oper → List Oper → Prop where
  | nil (i : Nat) (l : List Oper) : Builds i [] l l
  | cons {i : Nat} {p : S64} {o : Oper} {ps : List S64} {os l : List Oper} (hg : o.guard = none) (hd : o.dst = some i) (ho : o.op = .build 64 #[(0, .const (.string p.f0)), (1, .const (.int .i64 p.f1))]) (h : Builds (i + 1) ps os l) : Builds i (p :: ps) (o :: os) l
theorem built64 (s : ByteArray) (n : Int) : Try.prog.built 64 [(0, .string s), (1, .int .i64 n)] = some #[.string s, .int .i64 n] := by kernel_rfl
theorem builds_wp {ops : Array Oper} {Q : Exit → Act → World → Prop} {rest : List Oper} {w : World} : ∀ {ps : List S64} {os : List Oper} {i : Nat} {a : Act}, Builds i ps os rest → i + ps.length ≤ a.tmps.size →
    (∀ a' : Act, a'.defers = a.defers → a'.tmps.size = a.tmps.size → (∀ j, j < i → a'.tmps[j]? = a.tmps[j]?) → (∀ j (hj : j < ps.length), a'.tmps[i + j]? = some (primV ps[j])) → wpList Try.prog ops Q rest a' w) →
    wpList Try.prog ops Q os a w := by
  intro ps
  induction ps with
  | nil =>
    intro os i a hb hs hK
    cases hb
    exact hK a rfl rfl (fun _ _ => rfl) (fun j hj => absurd hj (Nat.not_lt_zero _))
  | cons p ps ih =>
    intro os i a hb hs hK
    cases hb with
    | cons hg hd ho h =>
      rename_i o os
      have e : ((#[(0, Operand.const (.string p.f0)), (1, Operand.const (.int .i64 p.f1))] : Array (Nat × Operand)).map fun (i, x) => (i, a.eval x)).toList = [(0, .string p.f0), (1, .int .i64 p.f1)] := by simp [Act.eval]
      simp only [List.length_cons] at hs
      refine wpList_build hg 64 _ ho (by rw [e, built64]; rfl) ?_
      rw [e, built64, hd]
      have hsz : ∀ v, (a.put (some i) v).tmps.size = a.tmps.size := fun v => by simp [Act.put]
      refine ih h (by rw [hsz]; omega) (fun a' h1 h2 h3 h4 => hK a' (h1.trans rfl) (h2.trans (hsz _)) (fun j hj => (h3 j (by omega)).trans ?_) (fun j hj => ?_))
      · show (a.tmps.setIfInBounds i _)[j]? = _
        rw [Array.getElem?_setIfInBounds, if_neg (by omega)]
      · cases j with
        | zero =>
          rw [h3 (i + 0) (by omega)]
          show (a.tmps.setIfInBounds i _)[i + 0]? = _
          rw [Array.getElem?_setIfInBounds, if_pos (by omega), if_pos (by omega)]
          simp [primV]
        | succ j =>
          have := h4 j (by simp at hj; omega)
          rw [show i + (j + 1) = i + 1 + j by omega, this]
          simp
def primsL : List S64 := [⟨⟨#[105]⟩, 25⟩, ⟨⟨#[106]⟩, 26⟩, ⟨⟨#[101, 120, 101, 99, 117, 116, 101]⟩, 29⟩, ⟨⟨#[43]⟩, 30⟩, ⟨⟨#[45]⟩, 31⟩, ⟨⟨#[42]⟩, 32⟩, ⟨⟨#[47]⟩, 33⟩, ⟨⟨#[109, 111, 100]⟩, 34⟩, ⟨⟨#[97, 110, 100]⟩, 35⟩, ⟨⟨#[111, 114]⟩, 36⟩, ⟨⟨#[120, 111, 114]⟩, 37⟩, ⟨⟨#[105, 110, 118, 101, 114, 116]⟩, 38⟩, ⟨⟨#[108, 115, 104, 105, 102, 116]⟩, 39⟩, ⟨⟨#[114, 115, 104, 105, 102, 116]⟩, 40⟩, ⟨⟨#[62, 62, 97]⟩, 41⟩, ⟨⟨#[47, 109, 111, 100]⟩, 42⟩, ⟨⟨#[117, 47, 109, 111, 100]⟩, 43⟩, ⟨⟨#[110, 101, 103, 97, 116, 101]⟩, 44⟩, ⟨⟨#[97, 98, 115]⟩, 45⟩, ⟨⟨#[109, 105, 110]⟩, 46⟩, ⟨⟨#[109, 97, 120]⟩, 47⟩, ⟨⟨#[62, 114]⟩, 48⟩, ⟨⟨#[114, 62]⟩, 49⟩, ⟨⟨#[114, 64]⟩, 50⟩, ⟨⟨#[48, 61]⟩, 52⟩, ⟨⟨#[48, 60, 62]⟩, 53⟩, ⟨⟨#[48, 60]⟩, 54⟩, ⟨⟨#[48, 60, 61]⟩, 55⟩, ⟨⟨#[48, 62]⟩, 56⟩, ⟨⟨#[48, 62, 61]⟩, 57⟩, ⟨⟨#[60]⟩, 58⟩, ⟨⟨#[62]⟩, 59⟩, ⟨⟨#[61]⟩, 60⟩, ⟨⟨#[60, 62]⟩, 61⟩, ⟨⟨#[117, 62]⟩, 62⟩, ⟨⟨#[117, 60, 61]⟩, 63⟩, ⟨⟨#[117, 60]⟩, 64⟩, ⟨⟨#[117, 62, 61]⟩, 65⟩, ⟨⟨#[62, 61]⟩, 66⟩, ⟨⟨#[60, 61]⟩, 67⟩, ⟨⟨#[100, 114, 111, 112]⟩, 70⟩, ⟨⟨#[100, 117, 112]⟩, 71⟩, ⟨⟨#[111, 118, 101, 114]⟩, 72⟩, ⟨⟨#[115, 119, 97, 112]⟩, 73⟩, ⟨⟨#[114, 111, 116]⟩, 74⟩, ⟨⟨#[45, 114, 111, 116]⟩, 75⟩, ⟨⟨#[116, 117, 99, 107]⟩, 76⟩, ⟨⟨#[110, 105, 112]⟩, 77⟩, ⟨⟨#[112, 105, 99, 107]⟩, 78⟩, ⟨⟨#[114, 111, 108, 108]⟩, 79⟩, ⟨⟨#[63, 100, 117, 112]⟩, 80⟩, ⟨⟨#[100, 101, 112, 116, 104]⟩, 81⟩, ⟨⟨#[50, 100, 114, 111, 112]⟩, 82⟩, ⟨⟨#[50, 100, 117, 112]⟩, 83⟩, ⟨⟨#[50, 111, 118, 101, 114]⟩, 84⟩, ⟨⟨#[50, 115, 119, 97, 112]⟩, 85⟩, ⟨⟨#[50, 114, 111, 116]⟩, 86⟩, ⟨⟨#[50, 47]⟩, 87⟩, ⟨⟨#[117, 50, 47]⟩, 88⟩, ⟨⟨#[50, 42]⟩, 89⟩, ⟨⟨#[43, 33]⟩, 108⟩, ⟨⟨#[64]⟩, 109⟩, ⟨⟨#[119, 64]⟩, 111⟩, ⟨⟨#[99, 64]⟩, 113⟩, ⟨⟨#[33]⟩, 114⟩, ⟨⟨#[119, 33]⟩, 116⟩, ⟨⟨#[99, 33]⟩, 117⟩, ⟨⟨#[109, 111, 118, 101]⟩, 120⟩, ⟨⟨#[102, 105, 108, 108]⟩, 121⟩, ⟨⟨#[99, 111, 109, 112]⟩, 122⟩, ⟨⟨#[108, 98, 115, 112, 108, 105, 116]⟩, 126⟩, ⟨⟨#[98, 108, 106, 111, 105, 110]⟩, 127⟩, ⟨⟨#[119, 98, 102, 108, 105, 112]⟩, 128⟩, ⟨⟨#[117, 112, 99]⟩, 129⟩, ⟨⟨#[108, 99, 99]⟩, 130⟩, ⟨⟨#[117, 110, 108, 111, 111, 112]⟩, 137⟩, ⟨⟨#[97, 108, 108, 111, 99, 45, 109, 101, 109]⟩, 139⟩, ⟨⟨#[101, 109, 105, 116]⟩, 143⟩, ⟨⟨#[116, 121, 112, 101]⟩, 144⟩, ⟨⟨#[99, 114]⟩, 146⟩, ⟨⟨#[117, 46]⟩, 155⟩, ⟨⟨#[46]⟩, 157⟩, ⟨⟨#[98, 97, 115, 101, 33]⟩, 160⟩, ⟨⟨#[45, 49]⟩, 164⟩, ⟨⟨#[48]⟩, 165⟩, ⟨⟨#[49]⟩, 166⟩, ⟨⟨#[50]⟩, 167⟩, ⟨⟨#[51]⟩, 168⟩, ⟨⟨#[98, 108]⟩, 169⟩, ⟨⟨#[104, 101, 114, 101]⟩, 173⟩, ⟨⟨#[117, 109, 42]⟩, 212⟩, ⟨⟨#[117, 109, 47, 109, 111, 100]⟩, 213⟩, ⟨⟨#[100, 43]⟩, 216⟩, ⟨⟨#[100, 45]⟩, 217⟩, ⟨⟨#[112, 114, 111, 112, 101, 114, 116, 121]⟩, 272⟩, ⟨⟨#[101, 110, 99, 111, 100, 101, 45, 105, 110, 116]⟩, 273⟩, ⟨⟨#[101, 110, 99, 111, 100, 101, 43]⟩, 274⟩, ⟨⟨#[101, 110, 99, 111, 100, 101, 45, 115, 116, 114, 105, 110, 103]⟩, 276⟩, ⟨⟨#[110, 101, 119, 45, 100, 101, 118, 105, 99, 101]⟩, 287⟩, ⟨⟨#[102, 105, 110, 105, 115, 104, 45, 100, 101, 118, 105, 99, 101]⟩, 295⟩, ⟨⟨#[115, 109, 47, 114, 101, 109]⟩, 469⟩, ⟨⟨#[109, 121, 45, 115, 101, 108, 102]⟩, 515⟩, ⟨⟨#[109, 121, 45, 112, 97, 114, 101, 110, 116]⟩, 522⟩, ⟨⟨#[36, 99, 97, 108, 108, 45, 109, 101, 116, 104, 111, 100]⟩, 526⟩, ⟨⟨#[99, 97, 116, 99, 104]⟩, 535⟩, ⟨⟨#[116, 104, 114, 111, 119]⟩, 536⟩, ⟨⟨#[103, 101, 116, 45, 109, 121, 45, 112, 114, 111, 112, 101, 114, 116, 121]⟩, 538⟩, ⟨⟨#[100, 101, 99, 111, 100, 101, 45, 105, 110, 116]⟩, 539⟩, ⟨⟨#[100, 101, 99, 111, 100, 101, 45, 115, 116, 114, 105, 110, 103]⟩, 540⟩, ⟨⟨#[100, 101, 108, 101, 116, 101, 45, 112, 114, 111, 112, 101, 114, 116, 121]⟩, 542⟩, ⟨⟨#[102, 109, 47, 109, 111, 100]⟩, 725⟩]
def primCells : List Value := primsL.flatMap fun p => [.string p.f0, .int .i64 p.f1]
theorem parts_eq (ρ : Operand → Value) (h : ∀ j (hj : j < primsL.length), ρ (.tmp (1 + j)) = primV (primsL[j]'hj)) :
    (((List.range 111).map fun i => (i, Operand.tmp (1 + i))).toArray.map fun (i, x) => (i, ρ x)) = (primsL.zipIdx.map fun q => (q.2, primV q.1)).toArray := by
  apply Array.ext'
  simp only [List.map_toArray, List.map_map]
  apply List.ext_getElem
  · simp [primsL]
  · intro i h1 h2
    have hi : i < primsL.length := by simpa using h2
    simp [h i hi]
theorem run_prims (W : World) : (Instr.buildSlice 65 111 (primsL.zipIdx.map fun q => (q.2, primV q.1)).toArray).run Try.prog W = .ok (.slice (some ⟨W.heap.size, 0, none⟩) 111 111) (W.alloc (.cells primCells.toArray 64)) := by
  kernel_rfl
theorem lits_wp {ops : Array Oper} {Q : Exit → Act → World → Prop} {o1 o2 : Oper} {a : Act} {w : World} (g1 : o1.guard = none) (d1 : o1.dst = some 112) (h1 : o1.op = .buildSlice 65 111 ((List.range 111).map fun i => (i, Operand.tmp (1 + i))).toArray)
    (g2 : o2.guard = none) (d2 : o2.dst = some 0) (h2 : o2.op = .assign (.tmp 112)) (hsz : a.tmps.size = 113) (h : ∀ j (hj : j < primsL.length), a.tmps[1 + j]? = some (primV primsL[j]))
    (hQ : ∀ a' : Act, a'.defers = a.defers → a'.tmps[0]? = some (.slice (some ⟨w.heap.size, 0, none⟩) 111 111) → Q .normal a' (w.alloc (.cells primCells.toArray 64))) : wpList Try.prog ops Q [o1, o2] a w := by
  have hp := parts_eq a.eval (fun j hj => by
    have := h j hj
    simp [Act.eval, this])
  refine wpList_plain g1 fun K hK => ?_
  unfold Oper.wp execOp
  simp only [h1]
  rw [hp]
  simp only [Sem.run_bind, run_prims, Result.andThen_ok, Sem.run_pure]
  show K _ _
  refine hK _ _ ?_
  rw [d1]
  refine wpList_plain g2 fun K2 hK2 => ?_
  unfold Oper.wp execOp
  simp only [h2]
  show K2 _ _
  refine hK2 _ _ (wpList_nil ?_)
  rw [d2]
  refine hQ _ rfl ?_
  have e1 : (a.put (some 112) (.slice (some ⟨w.heap.size, 0, none⟩) 111 111)).eval (.tmp 112) = .slice (some ⟨w.heap.size, 0, none⟩) 111 111 := by
    have := hsz
    simp [Act.eval, Act.put, this]
  rw [e1]
  show ((a.tmps.setIfInBounds 112 _).setIfInBounds 0 _)[0]? = _
  rw [Array.getElem?_setIfInBounds, if_pos rfl, if_pos (by simp; omega)]
set_option maxRecDepth 100000 in
theorem prims64 (w : World) : Calls Try.prog 64 #[] w fun e w' => e = .returned (.slice (some ⟨w.heap.size, 0, none⟩) 111 111) ∧ w' = w.alloc (.cells primCells.toArray 64) := by
  refine calls_of_wp Try.func64 rfl ?_
  refine wp_seq (wp_region_list ?_)
  refine wpList_plain rfl fun K hK => ?_
  show K _ _
  refine hK _ _ (wpList_nil ?_)
  show Code.wp _ _ _ _ _
  refine wp_seq (wp_region_list ?_)
  simp only [List.append_eq, List.cons_append, List.nil_append]
  refine builds_wp (i := 1) (ps := primsL) (rest := ?r) ?b ?s ?k
  case b =>
    dsimp only [primsL]
    repeat (first | exact Builds.nil _ _ | apply Builds.cons rfl rfl rfl)
  case s => simp [Act.put, show Try.f64.ntmps = 113 from rfl, primsL]
  case k =>
    intro a' h1 h2 h3 h4
    refine lits_wp rfl rfl rfl rfl rfl rfl (h2.trans (by simp [Act.put, show Try.f64.ntmps = 113 from rfl])) h4 fun a2 e1 e2 => ?_
    show Code.wp _ _ _ _ _
    refine wp_ret (bodyPost_ret (v := .slice (some ⟨w.heap.size, 0, none⟩) 111 111) ?_ (e1.trans (h1.trans rfl)) ⟨rfl, rfl⟩)
    rw [results_tmp (t := 0) rfl, Array.getD_eq_getD_getElem?, e2]
    rfl
set_option maxRecDepth 100000 in
theorem prims36 (w : World) : Calls Try.prog 36 #[] w fun e w' => e = .returned (.slice (some ⟨w.heap.size, 0, none⟩) 111 111) ∧ w' = w.alloc (.cells primCells.toArray 64) := by
  refine calls_of_wp Try.func36 rfl ?_
  refine wp_seq (wp_region_list ?_)
  refine wpList_plain rfl fun K hK => ?_
  show K _ _
  refine hK _ _ (wpList_nil ?_)
  show Code.wp _ _ _ _ _
  refine wp_seq (wp_region_list ?_)
  simp only [List.append_eq, List.cons_append, List.nil_append]
  refine builds_wp (i := 1) (ps := primsL) (rest := ?r) ?b ?s ?k
  case b =>
    dsimp only [primsL]
    repeat (first | exact Builds.nil _ _ | apply Builds.cons rfl rfl rfl)
  case s => simp [Act.put, show Try.f36.ntmps = 113 from rfl, primsL]
  case k =>
    intro a' h1 h2 h3 h4
    refine lits_wp rfl rfl rfl rfl rfl rfl (h2.trans (by simp [Act.put, show Try.f36.ntmps = 113 from rfl])) h4 fun a2 e1 e2 => ?_
    show Code.wp _ _ _ _ _
    refine wp_ret (bodyPost_ret (v := .slice (some ⟨w.heap.size, 0, none⟩) 111 111) ?_ (e1.trans (h1.trans rfl)) ⟨rfl, rfl⟩)
    rw [results_tmp (t := 0) rfl, Array.getD_eq_getD_getElem?, e2]
    rfl
theorem prims_row {w : World} : Kd.R k64 64 (w.alloc (.cells primCells.toArray 64)) w.heap.size (fun _ => True) (.slice (some ⟨w.heap.size, 0, none⟩) 111 111) primsL := by
  have hl : primsL.length = 111 := by simp [primsL]
  refine ⟨fun _ _ => trivial, primCells, ?_, ?_⟩
  · have h2 := World.ownsRow_lit (base := w.heap.size) (e := 64) (size := k64.sz) w primCells.toArray 111 (Nat.le_refl _) (by simp [maxLen]) (by kernel_rfl)
    rw [hl]
    simpa using h2
  · refine ⟨by kernel_rfl, fun j p hj => ?_⟩
    have hc : (primCells.drop (j * 2)).take 2 = [.string p.f0, .int .i64 p.f1] := by
      have hj' : j < primsL.length := (List.getElem?_eq_some_iff.1 hj).1
      have hall : ∀ j, (h : j < primsL.length) → (primCells.drop (j * 2)).take 2 = [.string primsL[j].f0, .int .i64 primsL[j].f1] := by
        have key : ∀ (l : List S64) (j : Nat) (h : j < l.length), ((l.flatMap fun p => [Value.string p.f0, .int .i64 p.f1]).drop (j * 2)).take 2 = [.string l[j].f0, .int .i64 l[j].f1] := by
          intro l
          induction l with
          | nil => intro j h; exact absurd h (Nat.not_lt_zero _)
          | cons x l ih =>
            intro j h
            cases j with
            | zero => simp
            | succ j =>
              have := ih j (by simpa using h)
              rw [show (j + 1) * 2 = j * 2 + 2 by omega]
              simpa using this
        exact key primsL
      rw [hall j hj', ← (List.getElem?_eq_some_iff.1 hj).2]
    show k64.M _ _ _ p ((primCells.drop (j * 2)).take 2)
    rw [hc]
    exact k64_mkM _ _ _ p
def dict_Prims.f  : Option ((List (S64))) := some primsL
theorem dict_Prims.calls  (r : List (S64)) (w : World) (h : dict_Prims.f  = some r) :
    Calls Try.prog 64 #[] w fun e w' => ∃ v0_ : Value, e = .returned (v0_) ∧ Kd.R k64 64 w' w.heap.size (fun _ => True) v0_ r ∧ Below w.heap.size w w' := by
  obtain rfl := Option.some.inj h
  exact (prims64 w).mono fun e w' ⟨he, hw⟩ => ⟨_, he, hw ▸ prims_row, hw ▸ below_alloc (Below.refl _ _) _⟩
def tinderref09_Prims.f  : Option ((List (S64))) := some primsL
theorem tinderref09_Prims.calls  (r : List (S64)) (w : World) (h : tinderref09_Prims.f  = some r) :
    Calls Try.prog 36 #[] w fun e w' => ∃ v0_ : Value, e = .returned (v0_) ∧ Kd.R k64 64 w' w.heap.size (fun _ => True) v0_ r ∧ Below w.heap.size w w' := by
  obtain rfl := Option.some.inj h
  exact (prims36 w).mono fun e w' ⟨he, hw⟩ => ⟨_, he, hw ▸ prims_row, hw ▸ below_alloc (Below.refl _ _) _⟩
end Go.Proofs.Ytpalbpakeokimaa.PK
