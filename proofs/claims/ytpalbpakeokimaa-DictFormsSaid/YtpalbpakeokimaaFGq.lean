/- tinder: a part of the proof, joined and pruned by wip/tools/prune.py out of: Gq -/
import Derived.Test.YtpalbpakeokimaaFGf
namespace Go.Proofs.Ytpalbpakeokimaa.PK
set_option linter.unusedVariables false
set_option linter.unusedSimpArgs false
open Go.RowKit Go.Proofs.YtpalbpakeokimaaW.PrintWords Go.Proofs.YtpalbpakeokimaaW.PrintLast Go.Proofs.YtpalbpakeokimaaW.PrintMore
def noDefer (o : Oper) : Bool := match o.op with | .defer _ => false | _ => true
theorem noDefer_spec {o : Oper} (h : noDefer o = true) : ∀ c, o.op ≠ .defer c := fun c e => by
  unfold noDefer at h
  rw [e] at h
  exact Bool.false_ne_true h
theorem upon_round {P : Program} {s n : Nat} {o : Oper} {a : Act} {K K' : Act → World → Prop} {Q : Exit → Act → World → Prop} (hq : ¬ LetsOut Q) (hK : ∀ a w, K a w → K' a w) :
    ∀ r, o.upon P a K Q r → o.uponIn (Fence.wide.inRound s) n P a K' Q r
  | .ok (.value v) w', h => hK _ _ h
  | .ok .skip w', h => hK _ _ h
  | .ok (.defer d) w', h => hK _ _ h
  | .ok (.enter f args) w', h => by
    refine ⟨fun h => by simp [Fence.wide] at h, ?_⟩
    refine CallsIn.inRound s ((callsIn_wide (n := n - 1)).2 (Calls.mono h ?_))
    intro e w'' he
    cases e with
    | returned v => exact hK _ _ he
    | panicked c => exact he
    | outgrown => exact he
  | .ok (.row row args) w', h => by
    refine ⟨fun h => by simp [Fence.wide] at h, ?_⟩
    intro c cs _
    obtain ⟨v, w'', hk, hs⟩ := h c cs
    exact ⟨v, w'', hK _ _ hk, stepsIn_wide.2 hs⟩
  | .ok (.round l f tmps assign body) w', h => h.elim
  | .halt (.panic v) w', h => h
  | .halt (.stuck _) w', h => h.elim
  | .halt (.exit _) w', h => h.elim
theorem opsIn_round {P : Program} {s n : Nat} {ops : Array Oper} {Q : Exit → Act → World → Prop} (hd : ops.all noDefer = true) (hq : ¬ LetsOut Q) :
    ∀ (l : List Nat) (a : Act) (w : World), wpOps P ops Q l a w → wpOpsIn (Fence.wide.inRound s) n P ops Q l a w
  | [], _, _, h => h
  | i :: rest, a, w, h => by
    simp only [wpOps] at h
    simp only [wpOpsIn]
    cases ho : ops[i]? with
    | none =>
      simp only [ho] at h ⊢
      exact opsIn_round hd hq rest a w h
    | some o =>
      simp only [ho] at h ⊢
      have hdo : noDefer o = true := by
        have := Array.all_eq_true'.1 hd o (Array.mem_of_getElem? ho)
        exact this
      by_cases hw : Region.wanted o (yielded ops a.tmps) = true
      · rw [if_pos hw] at h ⊢
        rcases h with h | ⟨_, h⟩
        · refine ⟨fun _ _ => trivial, ?_⟩
          rw [Oper.semAt_eq _ _ _ (noDefer_spec hdo)]
          exact upon_round hq (fun a w h => opsIn_round hd hq rest a w h) _ h
        · exact absurd h hq
      · rw [if_neg hw] at h ⊢
        exact ⟨fun _ _ => trivial, opsIn_round hd hq rest _ w h⟩
theorem startIn_ {P : Program} {s k : Nat} {ops : Array Oper} {Q : Exit → Act → World → Prop} {S : World → Prop} {ds : List Nat} {id n : Nat} {a : Act} {w : World} (l : Array Bool) (hm : P.follows .mixedOrders = true) (hn : ops.size = n) (hl : Array.replicate n false = l) (hd : ops.all noDefer = true) (hq : ¬ LetsOut Q) (hS : S w.drew)
    (h : S w.drew → wpAnyLast P .any ops Q S ds n l a w.drew) : (Code.region id ops true).wpIn (Fence.wide.inRound s) k P Q a w := by
  subst hn
  subst hl
  refine wpIn_region_draw fun t => opsIn_round hd hq _ _ _ ?_
  simp only [Region.schedule, hm, Bool.true_or, if_true]
  exact wpAny_sound ops.size t _ a _ (wpAny_of_last _ _ _ _ (h hS))
end Go.Proofs.Ytpalbpakeokimaa.PK
