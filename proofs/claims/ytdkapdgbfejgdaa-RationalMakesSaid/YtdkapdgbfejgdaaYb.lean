/- A range over slices.Backward of a []uint32: the iterator's contract and the caller's law, where the invariant counts what is still to come. -/
import Derived.RangeFuncNested
import Derived.RangeFuncBound
import Derived.RangeFuncCalls
import Derived.RangeFuncLeaves
import Derived.Shelf.Abstract
import Derived.WalkKit
import Derived.OwnWalkIn
import Derived.TacticsInMore
import Derived.LoopNIn
import Derived.LoopIn
import Derived.RangeFuncWrites
import Derived.Test.YtdkapdgbfejgdaaY1
set_option linter.unusedVariables false
set_option linter.unusedSimpArgs false
namespace Go.Proofs.Ytdkapdgbfejgdaa
open Go.RowKit Go.Shelf Go.Proofs.YtdkapdgbfejgdaaW.PrintWords Go.Proofs.YtdkapdgbfejgdaaW.PrintLast Go.Proofs.YtdkapdgbfejgdaaW.PrintMore
attribute [local go_sem] Oper.semAt_some

/-- The closure of slices.Backward: from the last element to the first. J k: k elements are still to come. -/
theorem back_in (F : Fence) (n : Nat) (h106 : F.fn 106) (hro : F.round = none) (hn : 1 ≤ n) (l Bs : Nat) (A : Option Addr) (len cap : Nat) (hlen : len ≤ 1000000000) (J : Nat → World → Prop) (Jx : World → Prop)
    (hJb : ∀ k W, J k W → W.cell? ⟨Bs, 0, none⟩ = some (.slice A len cap))
    (hJc : ∀ i W, J (i + 1) W → i < len → ∃ ad, A = some ad ∧ ∃ x, W.cell? (ad.add i) = some (.int .u32 x))
    (hY : ∀ i x ad W, J (i + 1) W → i < len → A = some ad → W.cell? (ad.add i) = some (.int .u32 x) → YieldAt F (n - 1) Try.prog l #[.int .i64 (i : Int), .int .u32 x] W fun e W' =>
      (e = .returned (.bool true) ∧ J i W') ∨ (e = .returned (.bool false) ∧ Jx W'))
    (W : World) (h0 : J len W) :
    CallsIn F n Try.prog 106 #[.func (.yield l) #[] #[], .pointer (some ⟨Bs, 0, none⟩)] W fun e W' => (∃ v, e = .returned v) ∧ (J 0 W' ∨ Jx W') := by
  refine callsIn_of_wp Try.func106 rfl h106 ?_ hro
  simp only [Try.ntmps106, List.size_toArray, List.length_cons, List.length_nil, Nat.reduceAdd, Nat.reduceSub, Array.replicate_succ, Array.replicate_zero, List.push_toArray, List.append_toArray, List.nil_append, List.cons_append]
  have hb := hJb _ _ h0
  gi_wp2
  gi_loopw [3] (fun i wr => ∃ k : Nat, k ≤ len ∧ i = .int .i64 ((k : Int) - 1) ∧ J k wr) (fun i _ => (intOf i + 1).toNat)
  case atStart => exact ⟨len, Nat.le_refl _, rfl, h0⟩
  case round =>
    clear hb
    obtain ⟨k, hk, rfl, hJ⟩ := hrel
    have hb := hJb _ _ hJ
    cases k with
    | zero =>
      gi_wp2
      go_end0
      exact ⟨⟨_, rfl⟩, .inl hJ⟩
    | succ i =>
      obtain ⟨ad, rfl, x, hx⟩ := hJc i wr hJ (by omega)
      obtain ⟨fn, tmps, assign, body, hy, hR⟩ := hY i x ad wr hJ (by omega) rfl hx
      have e1 : (((i + 1 : Nat) : Int) - 1) = (i : Int) := by omega
      rw [e1]
      gi_wp2
      refine hR.mono ?_
      rintro e W3 (⟨rfl, hJ3⟩ | ⟨rfl, hJx3⟩)
      · gi_wp2
        go_roundw
        case rel => exact ⟨i, by omega, rfl, hJ3⟩
        case measure => simp [intOf]
      · gi_wp2
        refine bodyPost_ret (results_none rfl _ _ _) rfl ?_
        exact ⟨⟨_, rfl⟩, .inr hJx3⟩


/-- How a round may be left: it goes on with one element fewer to come, or it leaves by a jump. -/
def postB (B : Nat) (I : Nat → World → Prop) (Ix : Code → World → Prop) (i : Nat) (W : World) : Exit → Act → World → Prop
  | .normal, _, W' => KeepsFrom B W W' ∧ I i W'
  | .ret, _, W' => KeepsFrom B W W' ∧ Ix .ret W'
  | .exit id, _, W' => KeepsFrom B W W' ∧ Ix (.exit id) W'
  | .goto t, _, W' => KeepsFrom B W W' ∧ Ix (.goto t) W'
  | .panic _, _, _ => False
  | .outgrown, _, _ => False

/-- The caller's law: one walk of the body, at an invariant that counts what is still to come. -/
theorem wpIn_back {F : Fence} {n : Nat} {g : Operand} {ps : Array Tmp} {assign body : Code} {Q : Exit → Act → World → Prop} {a : Act} {w : World}
    (hro : F.round = none) (h2 : 2 ≤ n) {Bs : Nat} {A : Option Addr} {len cap : Nat} (hlen : len ≤ 1000000000)
    (hg : a.eval g = .func (.func 106) #[] #[.pointer (some ⟨Bs, 0, none⟩)]) (hFg : F.fn 106) (enc : Nat → Int → Array Value) (henc : ∀ i x, enc i x = #[.int .i64 (i : Int), .int .u32 x]) (hps : ps.size = 2)
    (I : Nat → World → Prop) (Ix : Code → World → Prop) (hI : OwnFrom w.heap.size I) (hIx : OwnFrom w.heap.size Ix)
    (hIb : ∀ k W, I k W → W.cell? ⟨Bs, 0, none⟩ = some (.slice A len cap))
    (hIc : ∀ i W, I (i + 1) W → i < len → ∃ ad, A = some ad ∧ ∃ x, W.cell? (ad.add i) = some (.int .u32 x))
    (h0 : I len w) (a₁ : Nat → Int → Act)
    (hassign : ∀ (l i : Nat) (x : Int) (W : World) (K : Act → World → Prop), K (a₁ i x) W →
      assign.wpIn (F.inRound l) (n - 1 - 1) Try.prog (Exit.then K (fun _ _ _ => False)) { tmps := (ps.zip (enc i x)).foldl (fun t (p, v) => t.setIfInBounds p v) a.tmps, defers := [] } W)
    (hbody : ∀ (l i : Nat) (x : Int) (ad : Addr) (W : World), I (i + 1) W → i < len → A = some ad → W.cell? (ad.add i) = some (.int .u32 x) → body.wpIn (F.inRound l) (n - 1 - 1) Try.prog (postB w.heap.size I Ix i W) (a₁ i x) W)
    (hdone : ∀ (D : Nat) (W : World), w.heap.size ≤ D → I 0 W → W.heap[D]? = some (.deferred (some [])) → Q .normal { a with defers := { target := .collected D, args := #[] } :: a.defers } W)
    (hstop : ∀ (D : Nat) (c : Code) (W : World), w.heap.size ≤ D → Ix c W → W.heap[D]? = some (.deferred (some [])) → c.wpIn F n Try.prog Q { a with defers := { target := .collected D, args := #[] } :: a.defers } W) :
    (Code.rangeFunc g ps assign body).wpIn F n Try.prog Q a w := by
  refine wpIn_rangeFunc ?_
  intro fn hfn
  rw [hro]
  obtain ⟨rec, hrec⟩ : ∃ rec : LoopState → Option Code → Loop, rec = fun st pe => { state := st, pending := pe, fn, tmps := a.tmps, params := ps, assign, body, defers := w.heap.size } := ⟨_, rfl⟩
  obtain ⟨W1, hW1⟩ : ∃ W1, (w.alloc (.deferred (some []))).alloc (.loop (rec .ready none)) = W1 := ⟨_, rfl⟩
  have hL1 : W1.heap[w.heap.size + 1]? = some (.loop (rec .ready none)) := by
    rw [← hW1]; have := World.alloc_heap_new (w.alloc (.deferred (some []))) (.loop (rec .ready none)); rwa [World.size_alloc] at this
  have hK1 : W1.heap[w.heap.size]? = some (.deferred (some [])) := by
    rw [← hW1]; exact (Below.heap_alloc _ _ _ (by simp)).trans (World.alloc_heap_new w _)
  have hI1 : I len W1 := by rw [← hW1]; exact hI.alloc _ (hI.alloc _ h0)
  refine ⟨w.heap.size + 1, [{ target := .collected w.heap.size, args := #[] }], W1, { target := .fn (.func 106) #[.pointer (some ⟨Bs, 0, none⟩)], args := #[.func (.yield (w.heap.size + 1)) #[] #[]] }, W1, 106,
    #[.func (.yield (w.heap.size + 1)) #[] #[], .pointer (some ⟨Bs, 0, none⟩)], W1, ?_, ?_, ?_, ?_, fun _ => by omega, ?_⟩
  · rw [← hW1, hrec]; exact run_enterLoop_outer _ _ _ _ _
  · simp only [resolve, hg]
    simp [go_sem]
  · intro f' hf'; simp [Target.leads] at hf'; subst hf'; exact hFg
  · simp [invoke, go_sem]
  · refine (back_in F (n - 1) hFg hro (by omega) (w.heap.size + 1) Bs A len cap hlen
      (fun k W => I k W ∧ W.heap[w.heap.size + 1]? = some (.loop (rec .ready none)) ∧ W.heap[w.heap.size]? = some (.deferred (some [])))
      (fun W => ∃ c, Ix c W ∧ W.heap[w.heap.size + 1]? = some (.loop (rec .done (some c))) ∧ W.heap[w.heap.size]? = some (.deferred (some [])))
      (fun k W h => hIb k W h.1) (fun i W h => hIc i W h.1) ?_ W1 ⟨hI1, hL1, hK1⟩).mono ?_
    · rintro i x ad W ⟨hi, hl, hk⟩ hlt hA hx
      have hsz : w.heap.size + 1 < W.heap.size := (Array.getElem?_eq_some_iff.1 hl).1
      have hy := run_yield (P := Try.prog) (args := enc i x) hl (by rw [hrec, henc]; exact hps.symm)
      rw [hrec] at hy
      rw [henc] at hy
      refine ⟨fn, _, assign, body, hy, roundIn_of_wpIn hfn ?_⟩
      rw [← henc]
      refine hassign _ i x W _ ⟨_, run_beginRound hl (by rw [hrec]), ?_⟩
      have hl2 : (W.putObj (w.heap.size + 1) (.loop { rec .ready none with state := .busy })).heap[w.heap.size + 1]? = some (.loop { rec .ready none with state := .busy }) := World.putObj_heap_same hsz
      have hk2 : (W.putObj (w.heap.size + 1) (.loop { rec .ready none with state := .busy })).heap[w.heap.size]? = some (.deferred (some [])) := (World.putObj_heap_other (by omega)).trans hk
      have hi2 := hI.putObj (.loop { rec .ready none with state := .busy }) hi (by omega) hl rfl
      have hx2 : (W.putObj (w.heap.size + 1) (.loop { rec .ready none with state := .busy })).cell? (ad.add i) = some (.int .u32 x) := cell_kept hx (grownBy_putObj' W _ _) (fun r e => by cases e; exact ⟨_, hl, rfl⟩)
      refine wpIn_mono (hbody _ i x ad _ hi2 hlt hA hx2) ?_
      have fin : ∀ (jump : Option Code) (W3 : World), KeepsFrom w.heap.size (W.putObj (w.heap.size + 1) (.loop { rec .ready none with state := .busy })) W3 →
          (Instr.endRound (w.heap.size + 1) jump).run Try.prog W3 = .ok (.bool jump.isNone) (W3.putObj (w.heap.size + 1) (.loop (rec (if jump.isNone then .ready else .done) jump))) ∧
          W3.heap[w.heap.size + 1]? = some (.loop { rec .ready none with state := .busy }) ∧
          (W3.putObj (w.heap.size + 1) (.loop (rec (if jump.isNone then .ready else .done) jump))).heap[w.heap.size + 1]? = some (.loop (rec (if jump.isNone then .ready else .done) jump)) ∧
          (W3.putObj (w.heap.size + 1) (.loop (rec (if jump.isNone then .ready else .done) jump))).heap[w.heap.size]? = some (.deferred (some [])) := fun jump W3 hk3 => by
        have hl3 := hk3.same _ _ (by omega) hl2 rfl
        have := run_endRound (P := Try.prog) jump hl3
        rw [hrec] at this ⊢
        exact ⟨this, by rw [hrec] at hl3; exact hl3, World.putObj_heap_same (Array.getElem?_eq_some_iff.1 hl3).1, (World.putObj_heap_other (by omega)).trans (hk3.same _ _ (by omega) hk2 rfl)⟩
      rintro e a3 W3 hp
      cases e with
      | normal =>
        obtain ⟨hk3, hi3⟩ := hp
        obtain ⟨hr, hl3, hl4, hk4⟩ := fin none W3 hk3
        exact ⟨_, _, hr, .inl ⟨rfl, hI.putObj _ hi3 (by omega) hl3 rfl, hl4, hk4⟩⟩
      | ret =>
        obtain ⟨hk3, hi3⟩ := hp
        obtain ⟨hr, hl3, hl4, hk4⟩ := fin (some .ret) W3 hk3
        exact ⟨_, _, hr, .inr ⟨rfl, .ret, hIx.putObj _ hi3 (by omega) hl3 rfl, hl4, hk4⟩⟩
      | exit id =>
        obtain ⟨hk3, hi3⟩ := hp
        obtain ⟨hr, hl3, hl4, hk4⟩ := fin (some (.exit id)) W3 hk3
        exact ⟨_, _, hr, .inr ⟨rfl, .exit id, hIx.putObj _ hi3 (by omega) hl3 rfl, hl4, hk4⟩⟩
      | goto t =>
        obtain ⟨hk3, hi3⟩ := hp
        obtain ⟨hr, hl3, hl4, hk4⟩ := fin (some (.goto t)) W3 hk3
        exact ⟨_, _, hr, .inr ⟨rfl, .goto t, hIx.putObj _ hi3 (by omega) hl3 rfl, hl4, hk4⟩⟩
      | panic ch => exact hp.elim
      | outgrown => exact hp.elim
    · rintro e W2 ⟨⟨v, rfl⟩, (⟨hi, hl, hk⟩ | ⟨c, hi, hl, hk⟩)⟩
      · exact ⟨none, _, by have := run_endLoop (P := Try.prog) hl (by rw [hrec]; simp); rw [hrec] at this; exact this, hdone _ _ (Nat.le_refl _) (hI.putObj _ hi (by omega) hl rfl) ((World.putObj_heap_other (by omega)).trans hk)⟩
      · exact ⟨some c, _, by have := run_endLoop (P := Try.prog) hl (by rw [hrec]; simp); rw [hrec] at this; exact this, hstop _ c _ (Nat.le_refl _) (hIx.putObj _ hi (by omega) hl rfl) ((World.putObj_heap_other (by omega)).trans hk)⟩


/-- The situation inside a loop over an iterator: s is the heap's size where the loop began. -/
structure LS (s : Nat) (w0 W : World) (ok : Nat → Prop) (bs : List (Nat × Obj)) (fs : List Rw) : Prop where
  hs : w0.heap.size ≤ s
  below : Below w0.heap.size w0 W
  nd : (bs.map (·.1)).Nodup
  box : ∀ b ∈ bs, W.heap[b.1]? = some b.2 ∧ w0.heap.size ≤ b.1
  cel : ∀ b ∈ bs, b.2.isCells = true
  row : ∀ f ∈ fs, f.at W (fun k => Gd w0 ok bs k ∧ k < s)

section
variable {s : Nat} {w0 W W' : World} {ok : Nat → Prop} {bs : List (Nat × Obj)} {fs : List Rw} {f : Rw}
theorem LS.of (h : Sit w0 W ok bs fs) (hc : ∀ b ∈ bs, b.2.isCells = true) : LS W.heap.size w0 W ok bs fs :=
  ⟨below_size h.below, h.below, h.nd, h.box, hc, fun f hm => ⟨(h.row f hm).1, Kd.F_bound (h.row f hm).2⟩⟩
theorem LS.sit (h : LS s w0 W ok bs fs) : Sit w0 W ok bs fs := ⟨h.below, h.nd, h.box, fun f hm => (h.row f hm).mono (fun _ hk => hk.1)⟩
theorem LS.grown (h : LS s w0 W ok bs fs) {row : Option Nat} (hg : W.grownBy W' row) (hr : ∀ r, row = some r → s ≤ r ∧ ∃ o : Obj, W.heap[r]? = some o ∧ o.isCells = false) : LS s w0 W' ok bs fs := by
  refine ⟨h.hs, h.below.grown hg (below_size h.below) (fun k e => Nat.le_trans h.hs (hr k e).1), h.nd, ?_, h.cel, ?_⟩
  · intro b hm
    refine ⟨(hg.block b.1 (blk_lt (h.box b hm).1) ?_).trans (h.box b hm).1, (h.box b hm).2⟩
    intro e
    obtain ⟨-, o, ho, hn⟩ := hr b.1 e.symm
    rw [(h.box b hm).1] at ho
    cases ho
    rw [h.cel b hm] at hn
    cases hn
  · intro f hm
    exact ⟨(h.row f hm).1, Kd.F_grown (h.row f hm).2 hg (fun k hk e => by have := (hr k e.symm).1; omega)⟩
theorem LS.call (h : LS s w0 W ok bs fs) (hb : Below W.heap.size W W') : LS s w0 W' ok bs fs :=
  ⟨h.hs, (h.sit.call hb).below, h.nd, (h.sit.call hb).box, h.cel, fun f hm => (h.row f hm).below hb⟩
theorem LS.drew (h : LS s w0 W ok bs fs) : LS s w0 W.drew ok bs fs :=
  ⟨h.hs, h.sit.drew.below, h.nd, h.box, h.cel, fun f hm => ⟨(h.row f hm).1, Kd.F_drew (h.row f hm).2⟩⟩
theorem LS.setn (pre : List (Nat × Obj)) {post : List (Nat × Obj)} {g : Nat} {cs cs' : Array Value} {t : TypeId} (h : LS s w0 W ok (pre ++ (g, .cells cs t (0, 0)) :: post) fs) (i : Nat) (v : Value) (e : cs.setIfInBounds i v = cs') :
    LS s w0 (W.setCell ⟨g, i, none⟩ v) ok (pre ++ (g, .cells cs' t (0, 0)) :: post) fs := by
  have hS := h.sit.setn pre i v e
  refine ⟨h.hs, hS.below, hS.nd, hS.box, ?_, ?_⟩
  · intro b hm
    rcases List.mem_append.mp hm with hm | hm
    · exact h.cel b (List.mem_append_left _ hm)
    · rcases List.mem_cons.mp hm with rfl | hm
      · rfl
      · exact h.cel b (List.mem_append_right _ (.tail _ hm))
  · intro f hm
    refine ⟨(h.row f hm).1, Kd.F_mono (Kd.F_far (p := ⟨g, i, none⟩) (h.row f hm).2 (fun k hk => hk.1.1 (g, _) (List.mem_append_right _ (.head _))) v) ?_⟩
    rintro k ⟨⟨h1, h2⟩, h3⟩
    refine ⟨⟨?_, h2⟩, h3⟩
    intro b hm
    rcases List.mem_append.mp hm with hm | hm
    · exact h1 b (List.mem_append_left _ hm)
    · rcases List.mem_cons.mp hm with rfl | hm
      · exact h1 (g, .cells cs t (0, 0)) (List.mem_append_right _ (.head _))
      · exact h1 b (List.mem_append_right _ (.tail _ hm))
end

end Go.Proofs.Ytdkapdgbfejgdaa
