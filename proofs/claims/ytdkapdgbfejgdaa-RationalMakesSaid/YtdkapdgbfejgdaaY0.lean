/- The situation of a walk: the own boxes and the rows that are read; and the facts on values of bigint.Int. -/
import Derived.Test.YtdkapdgbfejgdaaQ0
import Derived.Test.YtdkapdgbfejgdaaM
set_option linter.unusedVariables false
set_option linter.unusedSimpArgs false
namespace Go.Proofs.Ytdkapdgbfejgdaa
open Go.RowKit Go.Proofs.YtdkapdgbfejgdaaW.PrintWords Go.Proofs.YtdkapdgbfejgdaaW.PrintLast Go.Proofs.YtdkapdgbfejgdaaW.PrintMore

theorem m0 {α : Type} {x  : α} {l : List α} : x ∈ x :: l := .head _
theorem m1 {α : Type} {x a : α} {l : List α} : x ∈ a :: x :: l := .tail _ (.head _)
theorem m2 {α : Type} {x a b : α} {l : List α} : x ∈ a :: b :: x :: l := .tail _ (.tail _ (.head _))
theorem m3 {α : Type} {x a b c : α} {l : List α} : x ∈ a :: b :: c :: x :: l := .tail _ (.tail _ (.tail _ (.head _)))
theorem m4 {α : Type} {x a b c d : α} {l : List α} : x ∈ a :: b :: c :: d :: x :: l := .tail _ (.tail _ (.tail _ (.tail _ (.head _))))
theorem m5 {α : Type} {x a b c d e : α} {l : List α} : x ∈ a :: b :: c :: d :: e :: x :: l := .tail _ (.tail _ (.tail _ (.tail _ (.tail _ (.head _)))))
theorem m6 {α : Type} {x a b c d e f : α} {l : List α} : x ∈ a :: b :: c :: d :: e :: f :: x :: l := .tail _ (.tail _ (.tail _ (.tail _ (.tail _ (.tail _ (.head _))))))
theorem m7 {α : Type} {x a b c d e f g : α} {l : List α} : x ∈ a :: b :: c :: d :: e :: f :: g :: x :: l := .tail _ (.tail _ (.tail _ (.tail _ (.tail _ (.tail _ (.tail _ (.head _)))))))

/-- Which of n operations have run. -/
def bm (n k : Nat) : Array Bool := ((List.range n).map (fun i => k.testBit i)).toArray

/-- A row that is read: the kind of its numbers, where it begins, what it reads as. -/
structure Rw where
  k : IntKind
  A : Option Addr
  c : Nat
  l : List Int

/-- The row reads so, whatever becomes of the blocks that 'ok' shuts out. -/
def Rw.at (f : Rw) (w : World) (ok : Nat → Prop) : Prop := f.l.length ≤ f.c ∧ Kd.F (Kd.int f.k) w ok f.A f.l.length f.l

/-- Not one of these boxes. -/
def Off (bs : List (Nat × Obj)) (k : Nat) : Prop := ∀ b ∈ bs, k ≠ b.1

/-- Not one of the own boxes, and given or new. -/
def Gd (w0 : World) (ok : Nat → Prop) (bs : List (Nat × Obj)) (k : Nat) : Prop := Off bs k ∧ (ok k ∨ w0.heap.size ≤ k)

structure Sit (w0 w : World) (ok : Nat → Prop) (bs : List (Nat × Obj)) (fs : List Rw) : Prop where
  below : Below w0.heap.size w0 w
  nd : (bs.map (·.1)).Nodup
  box : ∀ b ∈ bs, w.heap[b.1]? = some b.2 ∧ w0.heap.size ≤ b.1
  row : ∀ f ∈ fs, f.at w (Gd w0 ok bs)

section
variable {w0 w w' : World} {ok : Nat → Prop} {bs bs' : List (Nat × Obj)} {fs : List Rw} {f : Rw}

theorem Off.nil (k : Nat) : Off [] k := by intro b hb; cases hb
theorem Sit.start (w : World) (ok : Nat → Prop) : Sit w w ok [] [] := ⟨Below.refl _ _, by simp, by simp, by simp⟩
theorem Rw.at.mono {ok' : Nat → Prop} (h : f.at w ok) (hok : ∀ k, ok k → ok' k) : f.at w ok' := ⟨h.1, Kd.F_mono h.2 hok⟩
theorem Rw.at.below (h : f.at w ok) (hb : Below w.heap.size w w') : f.at w' ok := ⟨h.1, Kd.F_below h.2 hb⟩
/-- A row that is there when the function begins. -/
theorem Sit.arg (h : Sit w w ok [] fs) (hf : f.at w ok) : Sit w w ok [] (f :: fs) :=
  ⟨h.below, h.nd, h.box, by
    intro x hx
    rcases List.mem_cons.mp hx with rfl | hx
    · exact hf.mono (fun k hk => ⟨Off.nil k, .inl hk⟩)
    · exact h.row x hx⟩
theorem Sit.call (h : Sit w0 w ok bs fs) (hb : Below w.heap.size w w') : Sit w0 w' ok bs fs :=
  ⟨below_step h.below hb, h.nd, fun b hm => ⟨blk_below (h.box b hm).1 hb, (h.box b hm).2⟩, fun f hm => (h.row f hm).below hb⟩
theorem Sit.drew (h : Sit w0 w ok bs fs) : Sit w0 w.drew ok bs fs := h.call (below_drew (Below.refl _ _))
theorem Sit.drewN (h : Sit w0 w ok bs fs) (n : Nat) : Sit w0 (w.drewN n) ok bs fs := h.call (pw_below_drewN (Below.refl _ _) n)
theorem Sit.drawn (h : Sit w0 w ok bs fs) (hd : Drawn0 w w') : Sit w0 w' ok bs fs := by obtain ⟨n, rfl⟩ := hd.out; exact h.drewN n
/-- A new box. -/
theorem Sit.newbox (h : Sit w0 w ok bs fs) {g : Nat} (hg : g = w.heap.size) {o : Obj} (hbox : w'.heap[g]? = some o) (hb : Below w.heap.size w w') : Sit w0 w' ok ((g, o) :: bs) fs := by
  refine ⟨below_step h.below hb, ?_, ?_, ?_⟩
  · rw [List.map_cons, List.nodup_cons]
    refine ⟨?_, h.nd⟩
    intro hm
    obtain ⟨b, hb', e⟩ := List.mem_map.mp hm
    have := blk_lt (h.box b hb').1
    simp only at e
    omega
  · intro b hm
    rcases List.mem_cons.mp hm with rfl | hm
    · exact ⟨hbox, by rw [hg]; exact below_size h.below⟩
    · exact ⟨blk_below (h.box b hm).1 hb, (h.box b hm).2⟩
  · intro f hm
    refine ⟨(h.row f hm).1, Kd.F_mono (Kd.F_below (Kd.F_elderB (h.row f hm).2 g (Nat.le_of_eq hg.symm)) hb) ?_⟩
    rintro k ⟨h1, h2⟩
    refine ⟨?_, h1.2⟩
    intro b hb
    rcases List.mem_cons.mp hb with rfl | hb
    · exact h2
    · exact h1.1 b hb
/-- What a call has handed back: a row more. -/
theorem Sit.got (h : Sit w0 w ok bs fs) (hf : f.at w' (fun k => Gd w0 ok bs k ∨ w.heap.size ≤ k)) (hb : Below w.heap.size w w') : Sit w0 w' ok bs (f :: fs) := by
  have h' := h.call hb
  refine ⟨h'.below, h'.nd, h'.box, ?_⟩
  intro x hx
  rcases List.mem_cons.mp hx with rfl | hx
  · refine hf.mono ?_
    rintro k (hk | hk)
    · exact hk
    · refine ⟨?_, .inr (Nat.le_trans (below_size h.below) hk)⟩
      intro b hm e
      have := blk_lt (h.box b hm).1
      omega
  · exact h'.row x hx
/-- The newest box has been handed to a call and is handed back as a row. -/
theorem Sit.own {g : Nat} {o : Obj} (h : Sit w0 w ok ((g, o) :: bs) fs) (hf : f.at w' (fun k => k = g ∨ w.heap.size ≤ k)) (hb : Below w.heap.size w w') : Sit w0 w' ok bs (f :: fs) := by
  have h' := h.call hb
  have hnd := h.nd
  rw [List.map_cons, List.nodup_cons] at hnd
  refine ⟨h'.below, hnd.2, fun b hm => h'.box b (.tail _ hm), ?_⟩
  intro x hx
  rcases List.mem_cons.mp hx with rfl | hx
  · refine hf.mono ?_
    rintro k (rfl | hk)
    · refine ⟨fun b hm e => ?_, .inr (h.box _ (.head _)).2⟩
      have hm2 : b.1 ∈ bs.map (·.1) := List.mem_map_of_mem hm
      rw [← e] at hm2
      exact hnd.1 hm2
    · refine ⟨?_, .inr (Nat.le_trans (below_size h.below) hk)⟩
      intro b hm e
      have := blk_lt (h.box b (.tail _ hm)).1
      omega
  · exact (h'.row x hx).mono (fun k hk => ⟨fun b hm => hk.1 b (.tail _ hm), hk.2⟩)
/-- One more row, at a world at which the situation holds already. -/
theorem Sit.more (h : Sit w0 w ok bs fs) (hf : f.at w (Gd w0 ok bs)) : Sit w0 w ok bs (f :: fs) :=
  ⟨h.below, h.nd, h.box, by
    intro x hx
    rcases List.mem_cons.mp hx with rfl | hx
    · exact hf
    · exact h.row x hx⟩
/-- A store into a box. -/
theorem Sit.set (h : Sit w0 w ok bs fs) (g i : Nat) (v : Value) (hg : g ∈ bs.map (·.1)) (hn : bs'.map (·.1) = bs.map (·.1))
    (hb : ∀ b ∈ bs', (w.setCell ⟨g, i, none⟩ v).heap[b.1]? = some b.2) : Sit w0 (w.setCell ⟨g, i, none⟩ v) ok bs' fs := by
  obtain ⟨b0, hb0, rfl⟩ := List.mem_map.mp hg
  have hnum' : ∀ k, Off bs k → Off bs' k := by
    intro k hk b hm e
    have hm' : b.1 ∈ bs.map (·.1) := by rw [← hn]; exact List.mem_map_of_mem hm
    obtain ⟨b', hb', e'⟩ := List.mem_map.mp hm'
    exact hk b' hb' (e.trans e'.symm)
  refine ⟨below_set h.below (h.box b0 hb0).2, by rw [hn]; exact h.nd, ?_, ?_⟩
  · intro b hm
    refine ⟨hb b hm, ?_⟩
    have hm' : b.1 ∈ bs.map (·.1) := by rw [← hn]; exact List.mem_map_of_mem hm
    obtain ⟨b', hb', e'⟩ := List.mem_map.mp hm'
    rw [← e']; exact (h.box b' hb').2
  · intro f hm
    exact ⟨(h.row f hm).1, Kd.F_mono (Kd.F_far (p := ⟨b0.1, i, none⟩) (h.row f hm).2 (fun _ hk => hk.1 b0 hb0) v) (fun _ hk => ⟨hnum' _ hk.1, hk.2⟩)⟩
/-- A store into a box. -/
theorem Sit.setn (pre : List (Nat × Obj)) {post : List (Nat × Obj)} {g : Nat} {cs cs' : Array Value} {t : TypeId} (h : Sit w0 w ok (pre ++ (g, .cells cs t (0, 0)) :: post) fs) (i : Nat) (v : Value) (e : cs.setIfInBounds i v = cs') :
    Sit w0 (w.setCell ⟨g, i, none⟩ v) ok (pre ++ (g, .cells cs' t (0, 0)) :: post) fs := by
  have hnd := h.nd
  rw [List.map_append, List.map_cons, List.nodup_append, List.nodup_cons] at hnd
  obtain ⟨-, ⟨hpost, -⟩, hpre⟩ := hnd
  refine h.set g i v (by simp) (by simp) ?_
  intro b hm
  rcases List.mem_append.mp hm with hm | hm
  · have hne : b.1 ≠ g := hpre b.1 (List.mem_map_of_mem hm) g (by simp)
    rw [Below.heap_setCell w ⟨g, i, none⟩ v b.1 hne]
    exact (h.box b (List.mem_append_left _ hm)).1
  · rcases List.mem_cons.mp hm with rfl | hm
    · exact blk_put (h.box _ (List.mem_append_right _ (.head _))).1 i v e
    · have hm2 : b.1 ∈ post.map (·.1) := List.mem_map_of_mem hm
      have hne : b.1 ≠ g := fun e => hpost (by rw [e] at hm2; exact hm2)
      rw [Below.heap_setCell w ⟨g, i, none⟩ v b.1 hne]
      exact (h.box b (List.mem_append_right _ (.tail _ hm))).1

theorem Sit.cell (h : Sit w0 w ok bs fs) {g : Nat} {cs : Array Value} {t : TypeId} (hm : (g, Obj.cells cs t (0, 0)) ∈ bs) (i : Nat) : w.cell? ⟨g, i, none⟩ = cs[i]? := blk_cell (h.box _ hm).1 i
theorem Sit.frozen (h : Sit w0 w ok bs fs) {g : Nat} {cs : Array Value} {t : TypeId} (hm : (g, Obj.cells cs t (0, 0)) ∈ bs) (i : Nat) : w.frozen? ⟨g, i, none⟩ = false := blk_frozen (h.box _ hm).1 i
theorem Sit.blk (h : Sit w0 w ok bs fs) {g : Nat} {o : Obj} (hm : (g, o) ∈ bs) : w.heap[g]? = some o := (h.box _ hm).1
/-- A row that is handed back. -/
theorem Sit.ret (h : Sit w0 w ok bs fs) (hm : f ∈ fs) : f.at w (fun k => ok k ∨ w0.heap.size ≤ k) := (h.row f hm).mono (fun _ hk => hk.2)
/-- What a row holds at i. -/
theorem Sit.read (h : Sit w0 w ok bs fs) (hm : f ∈ fs) (i : Nat) (hi : i < f.l.length) : ∃ ad, f.A = some ad ∧ w.cell? (ad.add i) = some (.int f.k (f.l.getD i 0)) := by
  obtain ⟨ad, e, hc⟩ := Kd.at_int (Kd.F_now (h.row f hm).2) (i : Int) (by omega) (by omega)
  exact ⟨ad, e, hc⟩
end

/-- A box of numbers is a row. -/
theorem box_row {w : World} {g e n c : Nat} {k : IntKind} {l : List Int} (h : w.heap[g]? = some (.cells (l.map (Value.int k)).toArray e (0, 0))) (hn : l.length = n) (hc : n ≤ c) (hl : n ≤ 9223372036854775807) :
    (⟨k, some ⟨g, 0, none⟩, c, l⟩ : Rw).at w (fun j => j = g) := by
  subst hn
  refine ⟨hc, fun W' hW => Kd.C_of_reads (d := (0 : Int)) ⟨rfl, hl, fun _ => ⟨⟨g, 0, none⟩, rfl, fun j hj => ?_⟩⟩⟩
  have h1 := blk_cell ((hW g rfl (blk_lt h)).trans h) j
  have h2 : (⟨g, 0, none⟩ : Addr).add j = ⟨g, j, none⟩ := by
    unfold Addr.add
    by_cases h0 : j = 0 <;> simp [h0]
  rw [h2, h1]
  simp [List.getD, List.getElem?_eq_getElem hj]

/-- A made slice of numbers: one box, all of it zeros. -/
theorem make_event {P : Program} {ops : Array Oper} {Q : Exit → Act → World → Prop} {rest : List Oper} {o : Oper} {a : Act} {W : World} (hgd : o.guard = none) {N : Tmp} (hd : o.dst = some N) (t : TypeId) (x y : Operand) (ho : o.op = .makeSlice t x y)
    (k : IntKind) (e bytes n : Nat) (hx : a.eval x = .int .i64 (n : Int)) (hy : a.eval y = .int .i64 (n : Int)) (ht : P.underlying t = some (.slice e)) (hinfo : (P.info? e).map (fun i => (i.zero, i.size, i.bytes)) = some (some (.int k 0), 1, bytes))
    (hl : n * bytes ≤ 281474976710656) (hn : n ≤ 281474976710656)
    (h : ∀ g, g = W.heap.size → ∀ w1, w1.heap[g]? = some (.cells (((List.replicate n (0 : Int)).map (Value.int k)).toArray) e (0, 0)) → Below W.heap.size W w1 → wpList P ops Q rest (a.put (some N) (.slice (some ⟨g, 0, none⟩) n n)) w1) : wpList P ops Q (o :: rest) a W := by
  obtain ⟨i0, hi, hzz⟩ := Option.map_eq_some_iff.1 hinfo
  simp only [Prod.mk.injEq] at hzz
  obtain ⟨hz0, hz1, hz2⟩ := hzz
  have hr := run_make (P := P) W t e i0 (.int k 0) ht hi hz0 .i64 .i64 (n : Int) (n : Int) (by omega) (by omega)
    (by
      have h3 : ((i0.bytes * n : Nat) : Int) ≤ 281474976710656 := by rw [hz2, Nat.mul_comm]; omega
      rwa [Int.natCast_mul] at h3) (by omega)
  simp only [Int.toNat_natCast, hz1, Nat.mul_one] at hr
  have hm : madeCells (Value.int k 0).cells n = ((List.replicate n (0 : Int)).map (Value.int k)).toArray := by
    apply Array.ext
    · simp [madeCells]
    · intro i h1 h2
      simp [madeCells, Value.cells, Nat.mod_one]
  rw [hm] at hr
  refine Kd.event_run hgd (v := .slice (some ⟨W.heap.size, 0, none⟩) n n) (w1 := W.alloc (.cells (((List.replicate n (0 : Int)).map (Value.int k)).toArray) e)) ?_ ?_
  · unfold execOp
    simp only [ho, hx, hy]
    simp [hr]
  · rw [hd]; exact h _ rfl _ (blk_new W _) (below_alloc (Below.refl _ _) _)

end Go.Proofs.Ytdkapdgbfejgdaa
