/- What two or four cells hold. -/
import Derived.Test.YtdkapdgbfejgdaaY0
namespace Go.Proofs.Ytdkapdgbfejgdaa
open Go.RowKit Go.Proofs.YtdkapdgbfejgdaaW.PrintWords Go.Proofs.YtdkapdgbfejgdaaW.PrintLast Go.Proofs.YtdkapdgbfejgdaaW.PrintMore

/-- What two cells hold. -/
theorem Sit.b2 {w0 w : World} {ok : Nat → Prop} {bs : List (Nat × Obj)} {fs : List Rw} (h : Sit w0 w ok bs fs) {g : Nat} {a b : Value} {t : TypeId} (hm : (g, Obj.cells #[a, b] t (0, 0)) ∈ bs) :
    w.cell? ⟨g, 0, none⟩ = some a ∧ w.frozen? ⟨g, 0, none⟩ = false ∧ w.cell? ⟨g, 1, none⟩ = some b ∧ w.frozen? ⟨g, 1, none⟩ = false := ⟨h.cell hm 0, h.frozen hm 0, h.cell hm 1, h.frozen hm 1⟩
theorem Sit.b4 {w0 w : World} {ok : Nat → Prop} {bs : List (Nat × Obj)} {fs : List Rw} (h : Sit w0 w ok bs fs) {g : Nat} {a b c d : Value} {t : TypeId} (hm : (g, Obj.cells #[a, b, c, d] t (0, 0)) ∈ bs) :
    w.cell? ⟨g, 0, none⟩ = some a ∧ w.frozen? ⟨g, 0, none⟩ = false ∧ w.cell? ⟨g, 1, none⟩ = some b ∧ w.frozen? ⟨g, 1, none⟩ = false ∧ w.cell? ⟨g, 2, none⟩ = some c ∧ w.frozen? ⟨g, 2, none⟩ = false ∧ w.cell? ⟨g, 3, none⟩ = some d ∧ w.frozen? ⟨g, 3, none⟩ = false :=
  ⟨h.cell hm 0, h.frozen hm 0, h.cell hm 1, h.frozen hm 1, h.cell hm 2, h.frozen hm 2, h.cell hm 3, h.frozen hm 3⟩
/-- Fewer boxes and fewer rows. -/
theorem Sit.fewer {w0 w : World} {ok : Nat → Prop} {bs bs' : List (Nat × Obj)} {fs fs' : List Rw} (h : Sit w0 w ok bs fs) (hb : bs'.Sublist bs) (hf : ∀ f ∈ fs', f ∈ fs) : Sit w0 w ok bs' fs' := by
  refine ⟨h.below, (hb.map _).nodup h.nd, fun b hm => h.box b (hb.subset hm), fun f hm => ?_⟩
  exact (h.row f (hf f hm)).mono (fun k hk => ⟨fun b hm => hk.1 b (hb.subset hm), hk.2⟩)

end Go.Proofs.Ytdkapdgbfejgdaa
