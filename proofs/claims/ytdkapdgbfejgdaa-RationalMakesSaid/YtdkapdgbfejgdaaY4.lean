/- bigint.compare: the order of two magnitudes. -/
import Derived.Test.YtdkapdgbfejgdaaYb
import Derived.Test.YtdkapdgbfejgdaaY3
import Derived.Test.YtdkapdgbfejgdaaShelf
set_option linter.unusedVariables false
set_option linter.unusedSimpArgs false
namespace Go.Proofs.Ytdkapdgbfejgdaa
open Go.RowKit Go.Shelf Go.Proofs.YtdkapdgbfejgdaaW.PrintWords Go.Proofs.YtdkapdgbfejgdaaW.PrintLast Go.Proofs.YtdkapdgbfejgdaaW.PrintMore
attribute [local go_sem] Oper.semAt_some

theorem vl_split (b : Int) (l : List Int) (k : Nat) (hk : k ≤ l.length) : vl b l = vl b (l.take k) + b ^ k * vl b (l.drop k) := by
  have h := vl_append b (l.take k) (l.drop k)
  rw [List.take_append_drop, List.length_take, Nat.min_eq_left hk] at h
  exact h
theorem vl_at (b : Int) (l : List Int) (k : Nat) (hk : k < l.length) : vl b l = vl b (l.take k) + b ^ k * l.getD k 0 + b ^ (k + 1) * vl b (l.drop (k + 1)) := by
  rw [vl_split b l (k + 1) (by omega), vl_take_succ]

/-- They agree from k on. -/
def Agree (X Y : List Int) (k : Nat) : Prop := X.drop k = Y.drop k

theorem Agree.step {X Y : List Int} {k : Nat} (h : Agree X Y (k + 1)) (hX : k < X.length) (hY : k < Y.length) (he : X.getD k 0 = Y.getD k 0) : Agree X Y k := by
  unfold Agree at *
  rw [List.drop_eq_getElem_cons hX, List.drop_eq_getElem_cons hY, h]
  congr 1
  simpa [List.getD, hX, hY] using he

theorem Agree.less {X Y : List Int} {k : Nat} (h : Agree X Y (k + 1)) (hX : k < X.length) (hY : k < Y.length) (oX : Okd 4294967296 X) (oY : Okd 4294967296 Y) (hlt : X.getD k 0 < Y.getD k 0) : vl 4294967296 X < vl 4294967296 Y := by
  rw [vl_at _ X k hX, vl_at _ Y k hY, h]
  have a := vl_lt (by omega) (oX.take k)
  have b := vl_nonneg (b := 4294967296) (by omega) (oY.take k)
  rw [List.length_take, Nat.min_eq_left (by omega)] at a
  have p : (0 : Int) < 4294967296 ^ k := Int.pow_pos (by omega)
  have c : (4294967296 : Int) ^ k * (X.getD k 0 + 1) ≤ 4294967296 ^ k * Y.getD k 0 := Int.mul_le_mul_of_nonneg_left (by omega) (by omega)
  rw [Int.mul_add] at c
  omega

theorem vl_len_lt {X Y : List Int} (oX : Okd 4294967296 X) (oY : Okd 4294967296 Y) (nY : NoZ Y) (h : X.length < Y.length) : vl 4294967296 X < vl 4294967296 Y := by
  have a := vl_lt (by omega) oX
  have b := vl_ge (b := 4294967296) (by omega) oY nY (by intro e; subst e; simp at h)
  have c : (4294967296 : Int) ^ X.length ≤ 4294967296 ^ (Y.length - 1) := pow_mono (by omega) (by omega)
  omega

theorem cmp3_lt {x y : Int} (h : x < y) : cmp3 x y = -1 := by unfold cmp3; rw [if_pos h]
theorem cmp3_gt {x y : Int} (h : y < x) : cmp3 x y = 1 := by unfold cmp3; rw [if_neg (by omega), if_pos h]
theorem cmp3_eq {x y : Int} (h : x = y) : cmp3 x y = 0 := by unfold cmp3; rw [if_neg (by omega), if_neg (by omega)]

/-- It returns how the two magnitudes stand. -/
def RetI64 (r : Int) (w : World) (e : Ending) (w' : World) : Prop := e = .returned (.int .i64 r) ∧ Below w.heap.size w w'

theorem CmpInt_ok (x y : Int) (w : World) : Calls Try.prog 84 #[.int .i64 x, .int .i64 y] w (RetC x y w) :=
  (Try.cmp_Compare_int x y w).mono fun _ _ ⟨h1, h2⟩ => ⟨h1, h2.symm⟩

theorem compare_len (A0 A1 : Option Addr) (c0 c1 : Nat) (l0 l1 : List Int) (w : World) (ok : Nat → Prop) (h0 : Okd 4294967296 l0) (h1 : Okd 4294967296 l1) (z0 : NoZ l0) (z1 : NoZ l1) (hne : l0.length ≠ l1.length) :
    Calls Try.prog 81 #[.slice A0 l0.length c0, .slice A1 l1.length c1] w (RetI64 (cmp3 (vl 4294967296 l0) (vl 4294967296 l1)) w) := by
  have hd : (l0.length == l1.length) = false := by simpa using hne
  have hd2 : (l0.length != l1.length) = true := by simpa using hne
  have E := Aside0.mk (show cmp3 (l0.length : Int) (l1.length : Int) = cmp3 (vl 4294967296 l0) (vl 4294967296 l1) by
    by_cases hlt : l0.length < l1.length
    · rw [cmp3_lt (by omega), cmp3_lt (vl_len_lt h0 h1 z1 hlt)]
    · rw [cmp3_gt (by omega), cmp3_gt (vl_len_lt h1 h0 z0 (by omega))])
  have H := Sit.start w ok
  clear hne
  go_enter Try.func81, Try.ntmps81
  go_wp2_with (first
    | ((with_reducible refine gate_dst (N := 3) rfl ?_); refine box_event ?hg (N := 3) ?hd (cs := #[.slice A1 l1.length c1]) (t := 23) ?hr ?_; (case hd => rfl); (case hg => rfl); (case hr => first | (go_simp; done) | (go_simp; rfl)); intro g1 hg w1 hbox hb; replace H := H.newbox hg hbox hb; clear hg hbox hb)
    | ((with_reducible refine gate_dst (N := 4) rfl ?_); refine box_event ?hg (N := 4) ?hd (cs := #[.int .i64 0]) (t := 3) ?hr ?_; (case hd => rfl); (case hg => rfl); (case hr => first | (go_simp; done) | (go_simp; rfl)); intro g2 hg w2 hbox hb; replace H := H.newbox hg hbox hb; clear hg hbox hb; have k1 : w2.cell? ⟨g1, 0, none⟩ = some (.slice A1 l1.length c1) := H.cell (.tail _ (.head _)) 0; have k2 : w2.cell? ⟨g2, 0, none⟩ = some (.int .i64 0) := H.cell (.head _) 0; have f2 := H.frozen (g := g2) (.head _) 0)
    | (go_at_call 84; refine (CmpInt_ok _ _ _).mono ?_; rintro e w' ⟨rfl, rfl⟩))
  rw [E.out]
  replace H := H.setn [] 0 (.int .i64 (cmp3 (vl 4294967296 l0) (vl 4294967296 l1))) rfl
  have hc : (w2.setCell ⟨g2, 0, none⟩ (Value.int .i64 (cmp3 (vl 4294967296 l0) (vl 4294967296 l1)))).cell? ⟨g2, 0, none⟩ = some (Value.int .i64 (cmp3 (vl 4294967296 l0) (vl 4294967296 l1))) := H.cell (.head _) 0
  exact bodyPost_ret (v := .int .i64 (cmp3 (vl 4294967296 l0) (vl 4294967296 l1))) (by simp [results, Try.results81, go_sem, hc]) rfl ⟨rfl, H.below⟩

/-- slices.Backward hands back its closure over a box of the slice. -/
theorem Backward_ok (A : Option Addr) (n c : Nat) (w : World) : Calls Try.prog 96 #[.slice A n c] w fun e w' =>
    ∃ g, e = .returned (.func (.func 106) #[] #[.pointer (some ⟨g, 0, none⟩)]) ∧ g = w.heap.size ∧ w'.heap[g]? = some (.cells #[.slice A n c] 23 (0, 0)) ∧ Below w.heap.size w w' := by
  go_enter Try.func96, Try.ntmps96
  go_wp2
  go_ret
  exact ⟨_, rfl, rfl, blk_new w _, below_alloc (Below.refl _ _) _⟩

theorem kf_set {B : Nat} {W W' : World} (h : KeepsFrom B W W') (p : Addr) (v : Value) : KeepsFrom B W (W'.setCell p v) := h.trans ((KeepsOthers.setCell W' p v).from B)
theorem kf_drew {B : Nat} {W W' : World} (h : KeepsFrom B W W') : KeepsFrom B W W'.drew := h.trans ((KeepsOthers.drew W').from B)

set_option maxHeartbeats 2000000 in
set_option maxRecDepth 100000 in
theorem compare_eq (A0 A1 : Option Addr) (c0 c1 : Nat) (l0 l1 : List Int) (w : World) (ok : Nat → Prop) (h0 : Okd 4294967296 l0) (h1 : Okd 4294967296 l1) (n0 : l0.length ≤ 100000000) (he : l0.length = l1.length)
    (hf0 : (⟨.u32, A0, c0, l0⟩ : Rw).at w ok) (hf1 : (⟨.u32, A1, c1, l1⟩ : Rw).at w ok) :
    Calls Try.prog 81 #[.slice A0 l0.length c0, .slice A1 l1.length c1] w (RetI64 (cmp3 (vl 4294967296 l0) (vl 4294967296 l1)) w) := by
  have hd : (l0.length == l1.length) = true := by simpa using he
  have hd2 : (l0.length != l1.length) = false := by simpa using he
  have HE := Aside0.mk he
  have H := ((Sit.start w ok).arg hf0).arg hf1
  clear hf0 hf1 he
  refine callsIn_wide.1 (callsIn_of_wp_marks (F := Fence.wide) (n := 5) Try.func81 rfl trivial ?_)
  refine wpIn_wide.2 ?_
  simp only [Try.ntmps81, List.size_toArray, List.length_cons, List.length_nil, Nat.reduceAdd, Nat.reduceSub, Array.replicate_succ, Array.replicate_zero, List.push_toArray, List.append_toArray, List.nil_append, List.cons_append]
  go_wp2_with (first
    | ((with_reducible refine gate_dst (N := 3) rfl ?_); refine box_event ?hg (N := 3) ?hd (cs := #[.slice A1 l1.length c1]) (t := 23) ?hr ?_; (case hd => rfl); (case hg => rfl); (case hr => first | (go_simp; done) | (go_simp; rfl)); intro g1 hg w1 hbox hb; replace H := H.newbox hg hbox hb; clear hg hbox hb)
    | ((with_reducible refine gate_dst (N := 4) rfl ?_); refine box_event ?hg (N := 4) ?hd (cs := #[.int .i64 0]) (t := 3) ?hr ?_; (case hd => rfl); (case hg => rfl); (case hr => first | (go_simp; done) | (go_simp; rfl)); intro g2 hg w2 hbox hb; replace H := H.newbox hg hbox hb; clear hg hbox hb; have k1 : w2.cell? ⟨g1, 0, none⟩ = some (.slice A1 l1.length c1) := H.cell (.tail _ (.head _)) 0; have k2 : w2.cell? ⟨g2, 0, none⟩ = some (.int .i64 0) := H.cell (.head _) 0; have f2 := H.frozen (g := g2) (.head _) 0)
    | (go_at_call 96; refine (Backward_ok _ _ _ _).mono ?_; rintro e w3 ⟨g3, rfl, hg, hbox, hb⟩; replace H := H.newbox hg hbox hb; clear hg hbox hb k1 k2 f2))
  have hL := LS.of H (by intro b hb; simp at hb; rcases hb with rfl | rfl | rfl <;> rfl)
  refine wpIn_wide.1 (wpIn_back (n := 5) rfl (by omega) (Bs := g3) (A := A0) (len := l0.length) (cap := c0) (by omega) rfl trivial (fun i x => #[.int .i64 (i : Int), .int .u32 x]) (fun _ _ => rfl) rfl
    (fun k W => LS w3.heap.size w W ok [(g3, .cells #[.slice A0 l0.length c0] 23 (0, 0)), (g2, .cells #[.int .i64 0] 3 (0, 0)), (g1, .cells #[.slice A1 l1.length c1] 23 (0, 0))] [⟨.u32, A1, c1, l1⟩, ⟨.u32, A0, c0, l0⟩] ∧ Agree l0 l1 k)
    (fun c W => c = .ret ∧ LS w3.heap.size w W ok [(g3, .cells #[.slice A0 l0.length c0] 23 (0, 0)), (g2, .cells #[.int .i64 (cmp3 (vl 4294967296 l0) (vl 4294967296 l1))] 3 (0, 0)), (g1, .cells #[.slice A1 l1.length c1] 23 (0, 0))] [⟨.u32, A1, c1, l1⟩, ⟨.u32, A0, c0, l0⟩])
    (fun k A B row hs hg hr => ⟨hs.1.grown hg hr, hs.2⟩) (fun c A B row hs hg hr => ⟨hs.1, hs.2.grown hg hr⟩)
    (fun k W h => h.1.sit.cell (.head _) 0) (fun i W h hi => by obtain ⟨ad, e, hc⟩ := h.1.sit.read (f := ⟨.u32, A0, c0, l0⟩) (.tail _ (.head _)) i hi; exact ⟨ad, e, _, hc⟩)
    ⟨hL, by unfold Agree; rw [List.drop_of_length_le (Nat.le_refl _), List.drop_of_length_le (Nat.le_of_eq HE.out.symm)]⟩
    (fun i x => { tmps := #[.slice A0 l0.length c0, .slice A1 l1.length c1, undef, .pointer (some ⟨g1, 0, none⟩), .pointer (some ⟨g2, 0, none⟩), .int .i64 (i : Int), .int .u32 x, .slice A0 l0.length c0, .int .i64 (l0.length : Int), .slice A1 l1.length c1, .int .i64 (l1.length : Int), .bool false, undef, undef, undef, undef, undef, .slice A0 l0.length c0, .func (.func 106) #[] #[.pointer (some ⟨g3, 0, none⟩)], .int .i64 (i : Int), .int .u32 x, undef, undef, undef, undef, undef, undef, undef, undef, undef, undef, undef, undef], defers := [] }) ?assign ?body ?done ?stop)
  case assign =>
    intro l i x W K hK
    gi_wp2
    exact hK
  case body =>
    rintro l i x ad W ⟨hS, hA⟩ hlt rfl hx
    have hlt1 : i < l1.length := by have := HE.out; omega
    obtain ⟨ad0, e0, r0⟩ := hS.sit.read (f := ⟨.u32, some ad, c0, l0⟩) (.tail _ (.head _)) i hlt
    cases e0
    obtain rfl : x = l0.getD i 0 := by rw [hx] at r0; simpa using r0
    obtain ⟨ad1, e1, r1⟩ := hS.sit.read (f := ⟨.u32, A1, c1, l1⟩) (.head _) i hlt1
    simp only at e1 r1
    subst e1
    obtain ⟨x, hx'⟩ : ∃ x, l0.getD i 0 = x := ⟨_, rfl⟩
    obtain ⟨y, hy'⟩ : ∃ y, l1.getD i 0 = y := ⟨_, rfl⟩
    have q1 : W.cell? ⟨g1, 0, none⟩ = some (.slice (some ad1) l1.length c1) := hS.sit.cell (.tail _ (.tail _ (.head _))) 0
    have q2 : W.cell? ⟨g2, 0, none⟩ = some (.int .i64 0) := hS.sit.cell (.tail _ (.head _)) 0
    have q3 := hS.sit.frozen (g := g2) (.tail _ (.head _)) 0
    rw [hx'] at hx ⊢
    rw [hy'] at r1
    clear r0
    by_cases hxy : x = y
    · have d1 : (x == y) = true := by simpa using hxy
      have d2 : (x != y) = false := by simpa using hxy
      have T := Aside0.mk (hA.step hlt hlt1 (by rw [hx', hy']; exact hxy))
      clear hxy hx' hy' hA
      gi_wp2
      exact ⟨KeepsFrom.refl _ _, hS, T.out⟩
    · have d1 : (x == y) = false := by simpa using hxy
      have d2 : (x != y) = true := by simpa using hxy
      have T := Aside0.mk (show cmp3 x y = (cmp3 (vl 4294967296 l0) (vl 4294967296 l1)) by
        by_cases hl : x < y
        · rw [cmp3_lt hl, cmp3_lt (hA.less hlt hlt1 h0 h1 (by rw [hx', hy']; exact hl))]
        · rw [cmp3_gt (by omega), cmp3_gt (Agree.less (Eq.symm hA) hlt1 hlt h1 h0 (by rw [hx', hy']; omega))])
      clear hxy hx' hy' hA
      gi_wp2_with (refine ⟨trivial, ?_⟩; gi_at_call 98; refine (CallsIn.inRound l (callsIn_wide.2 (CmpU32_ok x y _))).mono ?_; rintro e w4 ⟨rfl, rfl⟩)
      rw [T.out]
      exact ⟨kf_set (KeepsFrom.refl _ _) _ _, rfl, hS.setn [_] 0 _ rfl⟩
  case done =>
    rintro D W hD ⟨hS, hA⟩ hK
    have q2 : W.cell? ⟨g2, 0, none⟩ = some (.int .i64 0) := hS.sit.cell (.tail _ (.head _)) 0
    have q3 := hS.sit.frozen (g := g2) (.tail _ (.head _)) 0
    go_wp2
    have e : (cmp3 (vl 4294967296 l0) (vl 4294967296 l1)) = 0 := cmp3_eq (by rw [show l0 = l1 from hA])
    rw [e]
    have hK' := (KeepsOthers.setCell W ⟨g2, 0, none⟩ (.int .i64 0)).same D _ hK rfl
    have hS' := (hS.setn [_] 0 (.int .i64 0) rfl).grown (grownBy_putObj' _ D (.deferred none)) (fun r e => by cases e; exact ⟨hD, _, hK', rfl⟩)
    have hc := hS'.sit.cell (.tail _ (.head _)) 0
    refine ⟨by simp, .inl ⟨_, _, rfl, run_takeDeferred hK', ?_⟩⟩
    exact ⟨.int .i64 0, by simp [results, Try.results81, go_sem, hc], rfl, hS'.below⟩
  case stop =>
    rintro D c W hD ⟨rfl, hS⟩ hK
    gi_wp2
    have hS' := hS.grown (grownBy_putObj' _ D (.deferred none)) (fun r e => by cases e; exact ⟨hD, _, hK, rfl⟩)
    have hc := hS'.sit.cell (.tail _ (.head _)) 0
    refine ⟨by simp, .inl ⟨_, _, rfl, run_takeDeferred hK, ?_⟩⟩
    exact ⟨.int .i64 (cmp3 (vl 4294967296 l0) (vl 4294967296 l1)), by simp [results, Try.results81, go_sem, hc], rfl, hS'.below⟩

theorem compare_ok (A0 A1 : Option Addr) (c0 c1 : Nat) (l0 l1 : List Int) (w : World) (ok : Nat → Prop) (r : Int) (h0 : Okd 4294967296 l0) (h1 : Okd 4294967296 l1) (z0 : NoZ l0) (z1 : NoZ l1) (n0 : l0.length ≤ 100000000)
    (hf0 : (⟨.u32, A0, c0, l0⟩ : Rw).at w ok) (hf1 : (⟨.u32, A1, c1, l1⟩ : Rw).at w ok) (hr : cmp3 (vl 4294967296 l0) (vl 4294967296 l1) = r) :
    Calls Try.prog 81 #[.slice A0 l0.length c0, .slice A1 l1.length c1] w (RetI64 r w) := by
  subst hr
  by_cases he : l0.length = l1.length
  · exact compare_eq A0 A1 c0 c1 l0 l1 w ok h0 h1 n0 he hf0 hf1
  · exact compare_len A0 A1 c0 c1 l0 l1 w ok h0 h1 z0 z1 he

end Go.Proofs.Ytdkapdgbfejgdaa
