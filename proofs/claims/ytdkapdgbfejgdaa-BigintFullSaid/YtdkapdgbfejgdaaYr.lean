/- A region that draws its order, inside a round of a range over a function: by the steps that serve everywhere. -/
import Derived.Test.YtdkapdgbfejgdaaYb
import Derived.OrdersIn
set_option linter.unusedVariables false
set_option linter.unusedSimpArgs false
namespace Go.Proofs.Ytdkapdgbfejgdaa
open Go.RowKit Go.Proofs.YtdkapdgbfejgdaaW.PrintWords Go.Proofs.YtdkapdgbfejgdaaW.PrintLast Go.Proofs.YtdkapdgbfejgdaaW.PrintMore

section
variable {P : Program} {l0 n : Nat} {md : Region.Mode} {ops : Array Oper} {Q : Exit → Act → World → Prop}

theorem wpIn_of_wp {o : Oper} (hd : ∀ c, o.op ≠ .defer c) (hout : ∀ a w, ¬ Q .outgrown a w) {K K' : Act → World → Prop} (hK : ∀ a w, K a w → K' a w) {a : Act} {w : World} (h : o.wp P a w K Q) :
    o.wpIn (Fence.wide.inRound l0) n P a w K' Q := by
  refine ⟨fun _ _ => trivial, ?_⟩
  rw [Oper.semAt_eq _ _ _ hd]
  unfold Oper.wp at h
  generalize (execOp a.eval o).run P w = r at h ⊢
  unfold Oper.upon at h
  split at h
  · exact hK _ _ h
  · exact hK _ _ h
  · exact hK _ _ h
  · refine ⟨fun hh => (by cases hh), CallsIn.inRound l0 (callsIn_wide.2 (h.mono ?_))⟩
    intro e w'' he
    cases e with
    | returned v => exact hK _ _ he
    | panicked c => exact he
    | outgrown => exact he
  · refine ⟨fun hh => (by cases hh), ?_⟩
    intro c cs hr
    obtain ⟨v, w', r, s⟩ := h c cs
    exact ⟨v, w', hK _ _ r, stepsIn_wide.2 s⟩
  · exact h
  · exact h.elim

theorem wpAnyIn_of (hd : ∀ (i : Nat) (o : Oper), ops[i]? = some o → ∀ c, o.op ≠ .defer c) (hout : ∀ a w, ¬ Q .outgrown a w) : ∀ (fuel : Nat) (listed : Array Bool) (a : Act) (w : World),
    wpAny P md ops Q fuel listed a w → wpAnyIn (Fence.wide.inRound l0) n P md ops Q fuel listed a w
  | 0, _, _, _, h => h
  | fuel + 1, listed, a, w, h => by
    refine ⟨h.1, fun i hi => ?_⟩
    have h2 := h.2 i hi
    unfold wpOp at h2
    unfold wpOpIn
    cases ho : ops[i]? with
    | none => rw [ho] at h2; exact wpAnyIn_of hd hout fuel _ _ _ h2
    | some o =>
      rw [ho] at h2
      simp only at h2 ⊢
      split
      · next hw =>
        rw [if_pos hw] at h2
        rcases h2 with h2 | ⟨-, a', w', hq⟩
        · exact wpIn_of_wp (hd i o ho) hout (fun a w => wpAnyIn_of hd hout fuel _ a w) h2
        · exact absurd hq (hout a' w')
      · next hw =>
        rw [if_neg hw] at h2
        exact ⟨fun _ _ => trivial, wpAnyIn_of hd hout fuel _ _ _ h2⟩

def plainOp (o : Oper) : Bool := match o.op with
  | .defer _ => false
  | _ => true

theorem startR {id m : Nat} {S : World → Prop} {ds : List Nat} {a : Act} {w : World} (l : Array Bool) (hm : P.follows .mixedOrders = true) (hn : ops.size = m) (hl : Array.replicate m false = l) (hnd : ops.all plainOp = true) (hout : ∀ a w, ¬ Q .outgrown a w) (hS : S w.drew)
    (h : S w.drew → wpAnyLast P .any ops Q S ds m l a w.drew) : (Code.region id ops true).wpIn (Fence.wide.inRound l0) n P Q a w := by
  subst hn
  subst hl
  refine wpIn_region_any hm (wpAnyIn_of ?_ hout _ _ _ _ (wpAny_of_last _ _ _ _ (h hS)))
  intro i o ho c e
  have h1 := Array.all_eq_true.mp hnd i (Array.getElem?_eq_some_iff.mp ho).1
  rw [(Array.getElem?_eq_some_iff.mp ho).2] at h1
  unfold plainOp at h1
  rw [e] at h1
  cases h1
end

end Go.Proofs.Ytdkapdgbfejgdaa
