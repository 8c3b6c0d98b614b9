-- laid by a program of this session
import Derived.Test.YtdkapdgbfejgdaaY9
namespace Go.Proofs.Ytdkapdgbfejgdaa.P
open Go.RowKit Go.Proofs.YtdkapdgbfejgdaaW.PrintWords Go.Proofs.YtdkapdgbfejgdaaW.PrintLast Go.Proofs.YtdkapdgbfejgdaaW.PrintMore
set_option linter.unusedVariables false
set_option linter.unusedSimpArgs false

theorem cell_same {w w' : World} (p : Addr) (h : w'.heap[p.block]? = w.heap[p.block]?) : w'.cell? p = w.cell? p := by
  unfold World.cell?
  rw [h]
theorem F_of_C {k : IntKind} {w : World} {A : Option Addr} {n : Nat} {l : List Int} (h : Kd.C (Kd.int k) w A n l) : Kd.F (Kd.int k) w (fun _ => True) A n l := by
  intro W' hW
  have hr := Kd.reads_of_C (d := (0 : Int)) h
  refine Kd.C_of_reads (d := (0 : Int)) ⟨hr.1, hr.2.1, fun hn => ?_⟩
  obtain ⟨ad, e, hc⟩ := hr.2.2 hn
  refine ⟨ad, e, fun j hj => ?_⟩
  have h1 := hc j hj
  have hb := World.block_lt_of_cell? w _ h1
  rw [cell_same _ (hW _ trivial hb)]
  exact h1

/-! ### bigint_short: function 76 -/
def bigint_short.f (l0 : List Int) (a1 : Int) : Option (List Int × Int) :=
  if (∀ x ∈ l0, 0 ≤ x ∧ x < 4294967296) ∧ l0.length ≤ 10000000 ∧ 1 ≤ a1 ∧ a1 < 4294967296 then some (dg 4294967296 (vl 4294967296 l0 / a1).toNat, vl 4294967296 l0 % a1) else none
theorem bigint_short.calls (A0 : Option Addr) (c0 : Nat) (l0 : List Int) (a1 : Int) (r1 : List Int) (r2 : Int) (w : World) (hr0 : Kd.C (Kd.int .u32) w A0 l0.length l0) (hc0 : l0.length ≤ c0) (h : bigint_short.f l0 a1 = some (r1, r2)) :
    Calls Try.prog 76 #[.slice A0 l0.length c0, .int .u32 a1] w fun e w' => ∃ v0_ : Value, e = .returned (.tuple #[v0_, .int .u32 r2]) ∧ Kd.V (Kd.int .u32) 93 w' w.heap.size (fun k_ => (w.heap.size ≤ k_)) v0_ r1 ∧ Below w.heap.size w w' := by
  unfold bigint_short.f at h
  split at h
  · next hc =>
    injection h with h
    injection h with h1 h2
    subst h1 h2
    refine (short_ok A0 c0 l0 _ a1 _ w (fun _ => True) hc.1 hc.2.1 hc.2.2.1 hc.2.2.2 ⟨hc0, F_of_C hr0⟩ rfl rfl).mono ?_
    rintro e w' ⟨A, c, rfl, hr, hb⟩
    exact ⟨_, rfl, ⟨A, c, rfl, hr.1, hr.2⟩, hb⟩
  · cases h

end Go.Proofs.Ytdkapdgbfejgdaa.P
