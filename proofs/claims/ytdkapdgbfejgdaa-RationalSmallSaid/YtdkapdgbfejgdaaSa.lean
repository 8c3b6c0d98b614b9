/- The walk of the law RationalSmall. -/
import Derived.Test.YtdkapdgbfejgdaaRl
namespace Go.Proofs.Ytdkapdgbfejgdaa
open Go.RowKit Go.Proofs.YtdkapdgbfejgdaaW.PrintWords Go.Proofs.YtdkapdgbfejgdaaW.PrintLast Go.Proofs.YtdkapdgbfejgdaaW.PrintMore
set_option linter.unusedSimpArgs false
set_option linter.unusedVariables false
set_option maxHeartbeats 8000000
set_option maxRecDepth 100000

theorem wf_i16 {a : Int} (h : (Lit.int .i16 a).wf = true) : -32768 ≤ a ∧ a ≤ 32767 := by
  simp only [Lit.wf, Bool.and_eq_true, decide_eq_true_eq] at h
  exact h
theorem mul16 {m n : Int} (h0 : -32768 ≤ m) (h1 : m ≤ 32768) (h2 : -32768 ≤ n) (h3 : n ≤ 32768) : -1073741824 ≤ m * n ∧ m * n ≤ 1073741824 := by
  have h : (m * n).natAbs ≤ 32768 * 32768 := by
    rw [Int.natAbs_mul]
    exact Nat.mul_le_mul (by omega) (by omega)
  omega
theorem div16 {m n : Int} (h0 : -32768 ≤ m) (h1 : m ≤ 32768) : -32768 ≤ m.tdiv n ∧ m.tdiv n ≤ 32768 := by
  have h : (m.tdiv n).natAbs = m.natAbs / n.natAbs := Int.natAbs_tdiv m n
  have h2 : m.natAbs / n.natAbs ≤ m.natAbs := Nat.div_le_self _ _
  omega
theorem mod16 {m n : Int} (h0 : -32768 ≤ m) (h1 : m ≤ 32768) : -32768 ≤ m.tmod n ∧ m.tmod n ≤ 32768 := by
  have h : (m.tmod n).natAbs = m.natAbs % n.natAbs := Int.natAbs_tmod m n
  have h2 : m.natAbs % n.natAbs ≤ m.natAbs := Nat.mod_le _ _
  omega
/-- The floor. -/
theorem flr_bounds' {n d : Int} (hd : 0 < d) : flr n d * d ≤ n ∧ n < (flr n d + 1) * d := by
  have e : dd d = d := dd_pos hd
  unfold flr
  rw [e]
  have h1 := Int.mul_tdiv_add_tmod n d
  rw [Int.mul_comm] at h1
  have h2 : (n.tmod d).natAbs < d.natAbs := by rw [Int.natAbs_tmod]; exact Nat.mod_lt _ (by omega)
  by_cases hs : sg (n.tmod d) < 0
  · rw [if_pos hs]
    have h3 : n.tmod d < 0 := by
      unfold sg at hs
      split at hs
      · assumption
      · split at hs <;> omega
    have h5 : (n.tdiv d - 1) * d = n.tdiv d * d - d := by rw [Int.sub_mul, Int.one_mul]
    rw [show n.tdiv d - 1 + 1 = n.tdiv d by omega]
    omega
  · rw [if_neg hs]
    have h3 : 0 ≤ n.tmod d := by
      unfold sg at hs
      split at hs
      · omega
      · omega
    rw [Int.add_mul, Int.one_mul]
    omega
theorem flr_low {n d A B : Int} (h : Lo n d A B) (hB : 0 < B) : flr n d = flr A B := by
  obtain ⟨h1, -, -, h4⟩ := h
  obtain ⟨a1, a2⟩ := flr_bounds' (n := n) h1
  obtain ⟨b1, b2⟩ := flr_bounds' (n := A) hB
  have c1 : flr n d < flr A B + 1 := by
    have e1 : flr n d * d * B ≤ n * B := Int.mul_le_mul_of_nonneg_right a1 (by omega)
    have e2 : A * d < (flr A B + 1) * B * d := Int.mul_lt_mul_of_pos_right b2 h1
    have e3 : flr n d * (d * B) < (flr A B + 1) * (d * B) := by grind
    exact Int.lt_of_mul_lt_mul_right e3 (Int.le_of_lt (Int.mul_pos h1 hB))
  have c2 : flr A B < flr n d + 1 := by
    have e1 : flr A B * B * d ≤ A * d := Int.mul_le_mul_of_nonneg_right b1 (by omega)
    have e2 : n * B < (flr n d + 1) * d * B := Int.mul_lt_mul_of_pos_right a2 hB
    have e3 : flr A B * (d * B) < (flr n d + 1) * (d * B) := by grind
    exact Int.lt_of_mul_lt_mul_right e3 (Int.le_of_lt (Int.mul_pos h1 hB))
  omega
theorem flr_val {A B : Int} (hB : 0 < B) : flr A B = if A.tmod B < 0 then A.tdiv B - 1 else A.tdiv B := by
  unfold flr
  rw [dd_pos hB]
  have e : sg (A.tmod B) < 0 ↔ A.tmod B < 0 := by unfold sg; split <;> (try split) <;> omega
  simp only [e]

theorem sma_b (a b c d : Int) (w : World) (a0 : -32768 ≤ a) (a1 : a ≤ 32767) (b0 : -32768 ≤ b) (b1 : b ≤ 32767) (c0 : -32768 ≤ c) (c1 : c ≤ 32767) (d0 : -32768 ≤ d) (d1 : d ≤ 32767) (t1 : (b == 0) = true) : Calls Try.prog 7 #[.int .i16 a, .int .i16 b, .int .i16 c, .int .i16 d] w (fun e W' => e = .returned (.bool true) ∧ Below w.heap.size w W') := by
  have hu25 := Try.underlying25
  have hu51 := Try.underlying51
  have H := Sit.start w (fun _ => False)
  go_enter Try.func7, Try.ntmps7
  have st2 := trivial
  go_wp2_with (first
    | (clear st2; go_at_call 38; (with_reducible refine (awake2 _).mono ?_); rintro e wA ⟨rfl, hb⟩; replace H := H.call hb; clear hb))
  go_ret
  exact ⟨rfl, H.below⟩

theorem sma_d (a b c d : Int) (w : World) (a0 : -32768 ≤ a) (a1 : a ≤ 32767) (b0 : -32768 ≤ b) (b1 : b ≤ 32767) (c0 : -32768 ≤ c) (c1 : c ≤ 32767) (d0 : -32768 ≤ d) (d1 : d ≤ 32767) (t1 : (b == 0) = false) (t2 : (d == 0) = true) : Calls Try.prog 7 #[.int .i16 a, .int .i16 b, .int .i16 c, .int .i16 d] w (fun e W' => e = .returned (.bool true) ∧ Below w.heap.size w W') := by
  have hu25 := Try.underlying25
  have hu51 := Try.underlying51
  have H := Sit.start w (fun _ => False)
  go_enter Try.func7, Try.ntmps7
  have st2 := trivial
  go_wp2_with (first
    | (clear st2; go_at_call 38; (with_reducible refine (awake2 _).mono ?_); rintro e wA ⟨rfl, hb⟩; replace H := H.call hb; clear hb))
  go_ret
  exact ⟨rfl, H.below⟩

def tb7.T10 : Bool × List (List Nat × List Nat) := (true, [([], []), ([0], [0]), ([1], [1]), ([2], [2]), ([3, 2], [2, 3]), ([2, 4], [2, 4]), ([5, 2], [5]), ([6], [6]), ([7, 6], [6, 7]), ([6, 8], [6, 8]), ([9, 6], [9]), ([10], [10]), ([11, 10], [10, 11]), ([10, 12], [10, 12]), ([13, 10], [13]), ([14], [14]), ([14], [14]), ([15, 16, 14, 14], [14, 15, 16]), ([14], [14]), ([17, 18, 17, 14], [14, 17, 18]), ([19, 14], [14, 19]), ([14, 20], [14, 20]), ([21, 19], [21]), ([22], [22]), ([22], [22]), ([23, 24, 22, 22], [22, 23, 24]), ([22], [22]), ([25, 26, 25, 22], [22, 25, 26]), ([27, 22], [22, 27]), ([22, 28], [22, 28])])
def tb7.B10 : List Nat := [0, 1, 3, 7, 15, 31, 63, 127, 255, 511, 1023, 2047, 4095, 8191, 16383, 32767, 32767, 131071, 32767, 524287, 1048575, 2097151, 4194303, 8388607, 8388607, 33554431, 8388607, 134217727, 268435455, 536870911]
theorem tb7.tab10 : rtab .any (opsOf Try.f7 10) = tb7.T10 := by kernel_rfl
theorem tb7.bits10 : waitsOk tb7.T10.2 tb7.B10 = true := by kernel_rfl

theorem sma_t (a b c d : Int) (w : World) (a0 : -32768 ≤ a) (a1 : a ≤ 32767) (b0 : -32768 ≤ b) (b1 : b ≤ 32767) (c0 : -32768 ≤ c) (c1 : c ≤ 32767) (d0 : -32768 ≤ d) (d1 : d ≤ 32767) (n1 e1 n2 e2 n3 e3 n4 e4 x1 y1 x2 y2 f1 : Int) (bn1 : Aside0 (ln n1 ≤ 20000)) (be1 : Aside0 (ln e1 ≤ 20000)) (bn2 : Aside0 (ln n2 ≤ 20000)) (be2 : Aside0 (ln e2 ≤ 20000)) (bn3 : Aside0 (ln n3 ≤ 20000)) (be3 : Aside0 (ln e3 ≤ 20000)) (bn4 : Aside0 (ln n4 ≤ 20000)) (be4 : Aside0 (ln e4 ≤ 20000)) (bx1 : Aside0 (ln x1 ≤ 20000)) (by1 : Aside0 (ln y1 ≤ 20000)) (bx2 : Aside0 (ln x2 ≤ 20000)) (by2 : Aside0 (ln y2 ≤ 20000)) (bf1 : Aside0 (ln f1 ≤ 20000)) (t1 : (b == 0) = false) (t2 : (d == 0) = false)
    (hx : Aside0 ((qn a b = n1 ∧ qd a b = e1 ∧ qe b = 0) ∧ (-9223372036854775808 ≤ a ∧ a ≤ 9223372036854775807) ∧ (-9223372036854775808 ≤ b ∧ b ≤ 9223372036854775807))) (hy : Aside0 ((qn c d = n2 ∧ qd c d = e2 ∧ qe d = 0) ∧ (-9223372036854775808 ≤ c ∧ c ≤ 9223372036854775807) ∧ (-9223372036854775808 ≤ d ∧ d ≤ 9223372036854775807))) (hs : Aside0 ((qn (a * d + c * b) (b * d) = n3 ∧ qd (a * d + c * b) (b * d) = e3 ∧ qe (b * d) = 0) ∧ (-9223372036854775808 ≤ (a * d + c * b) ∧ (a * d + c * b) ≤ 9223372036854775807) ∧ (-9223372036854775808 ≤ (b * d) ∧ (b * d) ≤ 9223372036854775807))) (hp : Aside0 ((qn (a * c) (b * d) = n4 ∧ qd (a * c) (b * d) = e4 ∧ qe (b * d) = 0) ∧ (-9223372036854775808 ≤ (a * c) ∧ (a * c) ≤ 9223372036854775807) ∧ (-9223372036854775808 ≤ (b * d) ∧ (b * d) ≤ 9223372036854775807)))
    (hv1 : Aside0 (qn (n1 * dd e2 + n2 * dd e1) (dd e1 * dd e2) = x1 ∧ qd (n1 * dd e2 + n2 * dd e1) (dd e1 * dd e2) = y1)) (eS : Aside0 (x1 = n3 ∧ y1 = e3)) (hv2 : Aside0 (qn (n1 * n2) (dd e1 * dd e2) = x2 ∧ qd (n1 * n2) (dd e1 * dd e2) = y2)) (eP : Aside0 (x2 = n4 ∧ y2 = e4)) (hf : Aside0 (flr n1 e1 = f1))
    (hcs : (decide (b < 0) = false ∧ (b == 0) = false ∧ decide (a.tmod b < 0) = true ∧ intOfI f1 = a.tdiv b - 1 ∧ fitsI f1 = true) ∨ (decide (b < 0) = false ∧ (b == 0) = false ∧ decide (a.tmod b < 0) = false ∧ intOfI f1 = a.tdiv b ∧ fitsI f1 = true) ∨ (decide (b < 0) = true ∧ ((-b) == 0) = false ∧ decide ((-a).tmod (-b) < 0) = true ∧ intOfI f1 = (-a).tdiv (-b) - 1 ∧ fitsI f1 = true) ∨ (decide (b < 0) = true ∧ ((-b) == 0) = false ∧ decide ((-a).tmod (-b) < 0) = false ∧ intOfI f1 = (-a).tdiv (-b) ∧ fitsI f1 = true)) : Calls Try.prog 7 #[.int .i16 a, .int .i16 b, .int .i16 c, .int .i16 d] w (fun e W' => e = .returned (.bool true) ∧ Below w.heap.size w W') := by
  obtain ⟨ad0, ad1⟩ := mul16 (m := a) (n := d) (by omega) (by omega) (by omega) (by omega)
  obtain ⟨cb0, cb1⟩ := mul16 (m := c) (n := b) (by omega) (by omega) (by omega) (by omega)
  obtain ⟨bd0, bd1⟩ := mul16 (m := b) (n := d) (by omega) (by omega) (by omega) (by omega)
  obtain ⟨ac0, ac1⟩ := mul16 (m := a) (n := c) (by omega) (by omega) (by omega) (by omega)
  have hu25 := Try.underlying25
  have hu51 := Try.underlying51
  have H := Sit.start w (fun _ => False)
  go_enter Try.func7, Try.ntmps7
  have st2 := trivial
  have st8 := trivial
  have st10 := trivial
  go_upto_region 7 with (first
    | (clear st2; go_at_call 38; (with_reducible refine (awake2 _).mono ?_); rintro e wA ⟨rfl, hb⟩; replace H := H.call hb; clear hb)
    | (clear st8; go_at_call 39; (with_reducible refine (FracQ _ a b n1 e1 0 hx.out).mono ?_); rintro e w3 ⟨A4, c5, A6, c7, rfl, hr, hr2, hb⟩; replace H := (H.got (fresh_row hr) hb).more ((H.got (fresh_row hr2) hb).row _ m0); clear hr hr2 hb)
    | (clear st10; (with_reducible refine gate_dst (N := 13) rfl ?_); refine box_event ?hg (N := 13) ?hd (cs := #[.bool false, .slice none 0 0, .bool false, .slice none 0 0]) (t := 51) ?hr ?_; (case hd => rfl); (case hg => rfl); (case hr => go_simp; try rfl); intro g13 hg w9 hbox hb; replace H := H.newbox hg hbox hb; clear hg hbox hb; obtain ⟨k13_0, z13_0, k13_1, z13_1, k13_2, z13_2, k13_3, z13_3⟩ := H.b4 (g := g13) m0))
  (try simp only [Act.put, List.setIfInBounds_toArray, List.set_cons_zero, List.set_cons_succ])
  replace H := H.set4 [] (.bool (ng n1)) (.slice A4 (ln n1) c5) (.bool (ng e1)) (.slice A6 (ln e1) c7)
  clear k13_0 z13_0 k13_1 z13_1 k13_2 z13_2 k13_3 z13_3
  generalize ((((w9.setCell ⟨g13, 0, none⟩ (.bool (ng n1))).setCell ⟨g13, 1, none⟩ (.slice A4 (ln n1) c5)).setCell ⟨g13, 2, none⟩ (.bool (ng e1))).setCell ⟨g13, 3, none⟩ (.slice A6 (ln e1) c7)) = w11 at H ⊢
  obtain ⟨k13_0, z13_0, k13_1, z13_1, k13_2, z13_2, k13_3, z13_3⟩ := H.b4 (g := g13) m0
  have st17 := trivial
  have st19 := trivial
  go_upto_region 8 with (first
    | (clear st17; go_at_call 39; (with_reducible refine (FracQ _ c d n2 e2 0 hy.out).mono ?_); rintro e w12 ⟨A13, c14, A15, c16, rfl, hr, hr2, hb⟩; replace H := (H.got (fresh_row hr) hb).more ((H.got (fresh_row hr2) hb).row _ m0); clear hr hr2 hb; clear k13_0 z13_0 k13_1 z13_1 k13_2 z13_2 k13_3 z13_3; obtain ⟨k13_0, z13_0, k13_1, z13_1, k13_2, z13_2, k13_3, z13_3⟩ := H.b4 (g := g13) m0)
    | (clear st19; (with_reducible refine gate_dst (N := 15) rfl ?_); refine box_event ?hg (N := 15) ?hd (cs := #[.bool false, .slice none 0 0, .bool false, .slice none 0 0]) (t := 51) ?hr ?_; (case hd => rfl); (case hg => rfl); (case hr => go_simp; try rfl); intro g15 hg w18 hbox hb; replace H := H.newbox hg hbox hb; clear hg hbox hb; clear k13_0 z13_0 k13_1 z13_1 k13_2 z13_2 k13_3 z13_3; obtain ⟨k15_0, z15_0, k15_1, z15_1, k15_2, z15_2, k15_3, z15_3⟩ := H.b4 (g := g15) m0; obtain ⟨k13_0, z13_0, k13_1, z13_1, k13_2, z13_2, k13_3, z13_3⟩ := H.b4 (g := g13) m1; have ne_g15_g13 := H.ne (g := g15) (g' := g13) 0 1 rfl rfl (by decide); have ne_g13_g15 := ne_g15_g13.symm))
  (try simp only [Act.put, List.setIfInBounds_toArray, List.set_cons_zero, List.set_cons_succ])
  replace H := H.set4 [] (.bool (ng n2)) (.slice A13 (ln n2) c14) (.bool (ng e2)) (.slice A15 (ln e2) c16)
  clear k15_0 z15_0 k15_1 z15_1 k15_2 z15_2 k15_3 z15_3 k13_0 z13_0 k13_1 z13_1 k13_2 z13_2 k13_3 z13_3
  generalize ((((w18.setCell ⟨g15, 0, none⟩ (.bool (ng n2))).setCell ⟨g15, 1, none⟩ (.slice A13 (ln n2) c14)).setCell ⟨g15, 2, none⟩ (.bool (ng e2))).setCell ⟨g15, 3, none⟩ (.slice A15 (ln e2) c16)) = w20 at H ⊢
  obtain ⟨k15_0, z15_0, k15_1, z15_1, k15_2, z15_2, k15_3, z15_3⟩ := H.b4 (g := g15) m0
  obtain ⟨k13_0, z13_0, k13_1, z13_1, k13_2, z13_2, k13_3, z13_3⟩ := H.b4 (g := g13) m1
  have st26 := trivial
  have st28 := trivial
  go_upto_region 9 with (first
    | (clear st26; go_at_call 39; (with_reducible refine (FracQ _ (a * d + c * b) (b * d) n3 e3 0 hs.out).mono ?_); rintro e w21 ⟨A22, c23, A24, c25, rfl, hr, hr2, hb⟩; replace H := (H.got (fresh_row hr) hb).more ((H.got (fresh_row hr2) hb).row _ m0); clear hr hr2 hb; clear k15_0 z15_0 k15_1 z15_1 k15_2 z15_2 k15_3 z15_3 k13_0 z13_0 k13_1 z13_1 k13_2 z13_2 k13_3 z13_3; obtain ⟨k15_0, z15_0, k15_1, z15_1, k15_2, z15_2, k15_3, z15_3⟩ := H.b4 (g := g15) m0; obtain ⟨k13_0, z13_0, k13_1, z13_1, k13_2, z13_2, k13_3, z13_3⟩ := H.b4 (g := g13) m1)
    | (clear st28; (with_reducible refine gate_dst (N := 17) rfl ?_); refine box_event ?hg (N := 17) ?hd (cs := #[.bool false, .slice none 0 0, .bool false, .slice none 0 0]) (t := 51) ?hr ?_; (case hd => rfl); (case hg => rfl); (case hr => go_simp; try rfl); intro g17 hg w27 hbox hb; replace H := H.newbox hg hbox hb; clear hg hbox hb; clear k15_0 z15_0 k15_1 z15_1 k15_2 z15_2 k15_3 z15_3 k13_0 z13_0 k13_1 z13_1 k13_2 z13_2 k13_3 z13_3; obtain ⟨k17_0, z17_0, k17_1, z17_1, k17_2, z17_2, k17_3, z17_3⟩ := H.b4 (g := g17) m0; obtain ⟨k15_0, z15_0, k15_1, z15_1, k15_2, z15_2, k15_3, z15_3⟩ := H.b4 (g := g15) m1; obtain ⟨k13_0, z13_0, k13_1, z13_1, k13_2, z13_2, k13_3, z13_3⟩ := H.b4 (g := g13) m2; have ne_g17_g15 := H.ne (g := g17) (g' := g15) 0 1 rfl rfl (by decide); have ne_g15_g17 := ne_g17_g15.symm; have ne_g17_g13 := H.ne (g := g17) (g' := g13) 0 2 rfl rfl (by decide); have ne_g13_g17 := ne_g17_g13.symm))
  (try simp only [Act.put, List.setIfInBounds_toArray, List.set_cons_zero, List.set_cons_succ])
  replace H := H.set4 [] (.bool (ng n3)) (.slice A22 (ln n3) c23) (.bool (ng e3)) (.slice A24 (ln e3) c25)
  clear k17_0 z17_0 k17_1 z17_1 k17_2 z17_2 k17_3 z17_3 k15_0 z15_0 k15_1 z15_1 k15_2 z15_2 k15_3 z15_3 k13_0 z13_0 k13_1 z13_1 k13_2 z13_2 k13_3 z13_3
  generalize ((((w27.setCell ⟨g17, 0, none⟩ (.bool (ng n3))).setCell ⟨g17, 1, none⟩ (.slice A22 (ln n3) c23)).setCell ⟨g17, 2, none⟩ (.bool (ng e3))).setCell ⟨g17, 3, none⟩ (.slice A24 (ln e3) c25)) = w29 at H ⊢
  obtain ⟨k17_0, z17_0, k17_1, z17_1, k17_2, z17_2, k17_3, z17_3⟩ := H.b4 (g := g17) m0
  obtain ⟨k15_0, z15_0, k15_1, z15_1, k15_2, z15_2, k15_3, z15_3⟩ := H.b4 (g := g15) m1
  obtain ⟨k13_0, z13_0, k13_1, z13_1, k13_2, z13_2, k13_3, z13_3⟩ := H.b4 (g := g13) m2
  have st35 := trivial
  have st37 := trivial
  go_upto_region 10 with (first
    | (clear st35; go_at_call 39; (with_reducible refine (FracQ _ (a * c) (b * d) n4 e4 0 hp.out).mono ?_); rintro e w30 ⟨A31, c32, A33, c34, rfl, hr, hr2, hb⟩; replace H := (H.got (fresh_row hr) hb).more ((H.got (fresh_row hr2) hb).row _ m0); clear hr hr2 hb; clear k17_0 z17_0 k17_1 z17_1 k17_2 z17_2 k17_3 z17_3 k15_0 z15_0 k15_1 z15_1 k15_2 z15_2 k15_3 z15_3 k13_0 z13_0 k13_1 z13_1 k13_2 z13_2 k13_3 z13_3; obtain ⟨k17_0, z17_0, k17_1, z17_1, k17_2, z17_2, k17_3, z17_3⟩ := H.b4 (g := g17) m0; obtain ⟨k15_0, z15_0, k15_1, z15_1, k15_2, z15_2, k15_3, z15_3⟩ := H.b4 (g := g15) m1; obtain ⟨k13_0, z13_0, k13_1, z13_1, k13_2, z13_2, k13_3, z13_3⟩ := H.b4 (g := g13) m2)
    | (clear st37; (with_reducible refine gate_dst (N := 19) rfl ?_); refine box_event ?hg (N := 19) ?hd (cs := #[.bool false, .slice none 0 0, .bool false, .slice none 0 0]) (t := 51) ?hr ?_; (case hd => rfl); (case hg => rfl); (case hr => go_simp; try rfl); intro g19 hg w36 hbox hb; replace H := H.newbox hg hbox hb; clear hg hbox hb; clear k17_0 z17_0 k17_1 z17_1 k17_2 z17_2 k17_3 z17_3 k15_0 z15_0 k15_1 z15_1 k15_2 z15_2 k15_3 z15_3 k13_0 z13_0 k13_1 z13_1 k13_2 z13_2 k13_3 z13_3; obtain ⟨k19_0, z19_0, k19_1, z19_1, k19_2, z19_2, k19_3, z19_3⟩ := H.b4 (g := g19) m0; obtain ⟨k17_0, z17_0, k17_1, z17_1, k17_2, z17_2, k17_3, z17_3⟩ := H.b4 (g := g17) m1; obtain ⟨k15_0, z15_0, k15_1, z15_1, k15_2, z15_2, k15_3, z15_3⟩ := H.b4 (g := g15) m2; obtain ⟨k13_0, z13_0, k13_1, z13_1, k13_2, z13_2, k13_3, z13_3⟩ := H.b4 (g := g13) m3; have ne_g19_g17 := H.ne (g := g19) (g' := g17) 0 1 rfl rfl (by decide); have ne_g17_g19 := ne_g19_g17.symm; have ne_g19_g15 := H.ne (g := g19) (g' := g15) 0 2 rfl rfl (by decide); have ne_g15_g19 := ne_g19_g15.symm; have ne_g19_g13 := H.ne (g := g19) (g' := g13) 0 3 rfl rfl (by decide); have ne_g13_g19 := ne_g19_g13.symm))
  (try simp only [Act.put, List.setIfInBounds_toArray, List.set_cons_zero, List.set_cons_succ])
  replace H := H.set4 [] (.bool (ng n4)) (.slice A31 (ln n4) c32) (.bool (ng e4)) (.slice A33 (ln e4) c34)
  clear k19_0 z19_0 k19_1 z19_1 k19_2 z19_2 k19_3 z19_3 k17_0 z17_0 k17_1 z17_1 k17_2 z17_2 k17_3 z17_3 k15_0 z15_0 k15_1 z15_1 k15_2 z15_2 k15_3 z15_3 k13_0 z13_0 k13_1 z13_1 k13_2 z13_2 k13_3 z13_3
  generalize ((((w36.setCell ⟨g19, 0, none⟩ (.bool (ng n4))).setCell ⟨g19, 1, none⟩ (.slice A31 (ln n4) c32)).setCell ⟨g19, 2, none⟩ (.bool (ng e4))).setCell ⟨g19, 3, none⟩ (.slice A33 (ln e4) c34)) = w38 at H ⊢
  obtain ⟨k19_0, z19_0, k19_1, z19_1, k19_2, z19_2, k19_3, z19_3⟩ := H.b4 (g := g19) m0
  obtain ⟨k17_0, z17_0, k17_1, z17_1, k17_2, z17_2, k17_3, z17_3⟩ := H.b4 (g := g17) m1
  obtain ⟨k15_0, z15_0, k15_1, z15_1, k15_2, z15_2, k15_3, z15_3⟩ := H.b4 (g := g15) m2
  obtain ⟨k13_0, z13_0, k13_1, z13_1, k13_2, z13_2, k13_3, z13_3⟩ := H.b4 (g := g13) m3
  clear k19_0 z19_0 k19_1 z19_1 k19_2 z19_2 k19_3 z19_3 k17_0 z17_0 k17_1 z17_1 k17_2 z17_2 k17_3 z17_3 k15_0 z15_0 k15_1 z15_1 k15_2 z15_2 k15_3 z15_3 k13_0 z13_0 k13_1 z13_1 k13_2 z13_2 k13_3 z13_3
  replace H := H.drew
  refine start_ (n := 30) (S := fun w' => w'.cell? ⟨g13, 0, none⟩ = some (.bool (ng n1)) ∧ w'.cell? ⟨g13, 1, none⟩ = some (.slice A4 (ln n1) c5) ∧ w'.cell? ⟨g13, 2, none⟩ = some (.bool (ng e1)) ∧ w'.cell? ⟨g13, 3, none⟩ = some (.slice A6 (ln e1) c7) ∧ w'.cell? ⟨g15, 0, none⟩ = some (.bool (ng n2)) ∧ w'.cell? ⟨g15, 1, none⟩ = some (.slice A13 (ln n2) c14) ∧ w'.cell? ⟨g15, 2, none⟩ = some (.bool (ng e2)) ∧ w'.cell? ⟨g15, 3, none⟩ = some (.slice A15 (ln e2) c16) ∧ w'.cell? ⟨g17, 0, none⟩ = some (.bool (ng n3)) ∧ w'.cell? ⟨g17, 1, none⟩ = some (.slice A22 (ln n3) c23) ∧ w'.cell? ⟨g17, 2, none⟩ = some (.bool (ng e3)) ∧ w'.cell? ⟨g17, 3, none⟩ = some (.slice A24 (ln e3) c25) ∧ w'.cell? ⟨g19, 0, none⟩ = some (.bool (ng n4)) ∧ w'.cell? ⟨g19, 1, none⟩ = some (.slice A31 (ln n4) c32) ∧ w'.cell? ⟨g19, 2, none⟩ = some (.bool (ng e4)) ∧ w'.cell? ⟨g19, 3, none⟩ = some (.slice A33 (ln e4) c34)) (ds := []) #[false, false, false, false, false, false, false, false, false, false, false, false, false, false, false, false, false, false, false, false, false, false, false, false, false, false, false, false, false, false] (by kernel_rfl) rfl rfl ⟨H.cell m3 0, H.cell m3 1, H.cell m3 2, H.cell m3 3, H.cell m2 0, H.cell m2 1, H.cell m2 2, H.cell m2 3, H.cell m1 0, H.cell m1 1, H.cell m1 2, H.cell m1 3, H.cell m0 0, H.cell m0 1, H.cell m0 2, H.cell m0 3⟩ (fun hQ => ?_)
  generalize w38.drew = w39 at H hQ ⊢
  refine with_tabW tb7.tab10 tb7.bits10 (fun HT_ HW_ => ?_)
  refine pure_ (i := 0) (N := some 76) (v := ?_) (a' := ?_) (bm 30 1) rfl rfl (any_of HT_.out (by kernel_rfl)) (fun _ _ _ h => h) (Or.inl ⟨by rfl, ?_⟩) ?_ ?_
  rotate_left
  · intro w'
    go_simp
    with_reducible rfl
  rotate_left
  · simp only [Act.put, List.setIfInBounds_toArray, List.set_cons_zero, List.set_cons_succ, i64_w, i32_w]
    rfl
  refine pure_ (i := 1) (N := some 77) (v := ?_) (a' := ?_) (bm 30 3) rfl rfl (any_of HT_.out (by kernel_rfl)) (fun _ _ _ h => h) (Or.inl ⟨by rfl, ?_⟩) ?_ ?_
  rotate_left
  · intro w'
    go_simp
    with_reducible rfl
  rotate_left
  · simp only [Act.put, List.setIfInBounds_toArray, List.set_cons_zero, List.set_cons_succ, i64_w, i32_w]
    rfl
  refine pure_ (i := 2) (N := some 78) (v := ?_) (a' := ?_) (bm 30 7) rfl rfl (any_of HT_.out (by kernel_rfl)) (fun _ _ _ h => h) (Or.inl ⟨by rfl, ?_⟩) ?_ ?_
  rotate_left
  · intro w'
    go_simp
    with_reducible rfl
  rotate_left
  · simp only [Act.put, List.setIfInBounds_toArray, List.set_cons_zero, List.set_cons_succ, i64_w, i32_w]
    rfl
  refine pure_ (i := 3) (N := some 79) (v := ?_) (a' := ?_) (bm 30 15) rfl rfl (any_of HT_.out (by kernel_rfl)) (fun _ _ _ h => h) (Or.inl ⟨by rfl, ?_⟩) ?_ ?_
  rotate_left
  · intro w'
    go_simp
    with_reducible rfl
  rotate_left
  · simp only [Act.put, List.setIfInBounds_toArray, List.set_cons_zero, List.set_cons_succ, i64_w, i32_w]
    rfl
  refine pure_ (i := 4) (N := some 80) (v := ?_) (a' := ?_) (bm 30 31) rfl rfl (any_of HT_.out (by kernel_rfl)) (fun _ _ _ h => h) (Or.inl ⟨by rfl, ?_⟩) ?_ ?_
  rotate_left
  · intro w'
    go_simp
    with_reducible rfl
  rotate_left
  · simp only [Act.put, List.setIfInBounds_toArray, List.set_cons_zero, List.set_cons_succ, i64_w, i32_w]
    rfl
  refine pure_ (i := 5) (N := some 81) (v := ?_) (a' := ?_) (bm 30 63) rfl rfl (any_of HT_.out (by kernel_rfl)) (fun _ _ _ h => h) (Or.inl ⟨by rfl, ?_⟩) ?_ ?_
  rotate_left
  · intro w'
    go_simp
    with_reducible rfl
  rotate_left
  · simp only [Act.put, List.setIfInBounds_toArray, List.set_cons_zero, List.set_cons_succ, i64_w, i32_w]
    rfl
  refine pure_ (i := 6) (N := some 82) (v := ?_) (a' := ?_) (bm 30 127) rfl rfl (any_of HT_.out (by kernel_rfl)) (fun _ _ _ h => h) (Or.inl ⟨by rfl, ?_⟩) ?_ ?_
  rotate_left
  · intro w'
    go_simp
    with_reducible rfl
  rotate_left
  · simp only [Act.put, List.setIfInBounds_toArray, List.set_cons_zero, List.set_cons_succ, i64_w, i32_w]
    rfl
  refine pure_ (i := 7) (N := some 83) (v := ?_) (a' := ?_) (bm 30 255) rfl rfl (any_of HT_.out (by kernel_rfl)) (fun _ _ _ h => h) (Or.inl ⟨by rfl, ?_⟩) ?_ ?_
  rotate_left
  · intro w'
    go_simp
    with_reducible rfl
  rotate_left
  · simp only [Act.put, List.setIfInBounds_toArray, List.set_cons_zero, List.set_cons_succ, i64_w, i32_w]
    rfl
  refine pure_ (i := 8) (N := some 84) (v := ?_) (a' := ?_) (bm 30 511) rfl rfl (any_of HT_.out (by kernel_rfl)) (fun _ _ _ h => h) (Or.inl ⟨by rfl, ?_⟩) ?_ ?_
  rotate_left
  · intro w'
    go_simp
    with_reducible rfl
  rotate_left
  · simp only [Act.put, List.setIfInBounds_toArray, List.set_cons_zero, List.set_cons_succ, i64_w, i32_w]
    rfl
  refine pure_ (i := 9) (N := some 85) (v := ?_) (a' := ?_) (bm 30 1023) rfl rfl (any_of HT_.out (by kernel_rfl)) (fun _ _ _ h => h) (Or.inl ⟨by rfl, ?_⟩) ?_ ?_
  rotate_left
  · intro w'
    go_simp
    with_reducible rfl
  rotate_left
  · simp only [Act.put, List.setIfInBounds_toArray, List.set_cons_zero, List.set_cons_succ, i64_w, i32_w]
    rfl
  refine pure_ (i := 10) (N := some 86) (v := ?_) (a' := ?_) (bm 30 2047) rfl rfl (any_of HT_.out (by kernel_rfl)) (fun _ _ _ h => h) (Or.inl ⟨by rfl, ?_⟩) ?_ ?_
  rotate_left
  · intro w'
    go_simp
    with_reducible rfl
  rotate_left
  · simp only [Act.put, List.setIfInBounds_toArray, List.set_cons_zero, List.set_cons_succ, i64_w, i32_w]
    rfl
  refine pure_ (i := 11) (N := some 87) (v := ?_) (a' := ?_) (bm 30 4095) rfl rfl (any_of HT_.out (by kernel_rfl)) (fun _ _ _ h => h) (Or.inl ⟨by rfl, ?_⟩) ?_ ?_
  rotate_left
  · intro w'
    go_simp
    with_reducible rfl
  rotate_left
  · simp only [Act.put, List.setIfInBounds_toArray, List.set_cons_zero, List.set_cons_succ, i64_w, i32_w]
    rfl
  refine pure_ (i := 12) (N := some 88) (v := ?_) (a' := ?_) (bm 30 8191) rfl rfl (any_of HT_.out (by kernel_rfl)) (fun _ _ _ h => h) (Or.inl ⟨by rfl, ?_⟩) ?_ ?_
  rotate_left
  · intro w'
    go_simp
    with_reducible rfl
  rotate_left
  · simp only [Act.put, List.setIfInBounds_toArray, List.set_cons_zero, List.set_cons_succ, i64_w, i32_w]
    rfl
  refine pure_ (i := 13) (N := some 89) (v := ?_) (a' := ?_) (bm 30 16383) rfl rfl (any_of HT_.out (by kernel_rfl)) (fun _ _ _ h => h) (Or.inl ⟨by rfl, ?_⟩) ?_ ?_
  rotate_left
  · intro w'
    go_simp
    with_reducible rfl
  rotate_left
  · simp only [Act.put, List.setIfInBounds_toArray, List.set_cons_zero, List.set_cons_succ, i64_w, i32_w]
    rfl
  refine pure_ (i := 14) (N := some 90) (v := ?_) (a' := ?_) (bm 30 32767) rfl rfl (any_of HT_.out (by kernel_rfl)) (fun _ _ _ h => h) (Or.inl ⟨by rfl, ?_⟩) ?_ ?_
  rotate_left
  · intro w'
    go_simp
    with_reducible rfl
  rotate_left
  · simp only [Act.put, List.setIfInBounds_toArray, List.set_cons_zero, List.set_cons_succ, i64_w, i32_w]
    rfl
  refine take_ (i := 15) (N := some 91) (v := ?_) (a' := ?_) (bm 30 65535) rfl rfl (take_ofW HT_.out HW_.out (by kernel_rfl)) (fun _ _ _ h => h) (Or.inl ⟨by rfl, ?_⟩) hQ ?_ ?_
  rotate_left
  · rintro w' ⟨s0, s1, s2, s3, s4, s5, s6, s7, s8, s9, s10, s11, s12, s13, s14, s15⟩
    go_simp
    with_reducible rfl
  rotate_left
  · simp only [Act.put, List.setIfInBounds_toArray, List.set_cons_zero, List.set_cons_succ, i64_w, i32_w]
    rfl
  refine take_ (i := 16) (N := some 92) (v := ?_) (a' := ?_) (bm 30 131071) rfl rfl (take_ofW HT_.out HW_.out (by kernel_rfl)) (fun _ _ _ h => h) (Or.inl ⟨by rfl, ?_⟩) hQ ?_ ?_
  rotate_left
  · rintro w' ⟨s0, s1, s2, s3, s4, s5, s6, s7, s8, s9, s10, s11, s12, s13, s14, s15⟩
    go_simp
    with_reducible rfl
  rotate_left
  · simp only [Act.put, List.setIfInBounds_toArray, List.set_cons_zero, List.set_cons_succ, i64_w, i32_w]
    rfl
  refine take_ (i := 18) (N := some 94) (v := ?_) (a' := ?_) (bm 30 393215) rfl rfl (take_ofW HT_.out HW_.out (by kernel_rfl)) (fun _ _ _ h => h) (Or.inl ⟨by rfl, ?_⟩) hQ ?_ ?_
  rotate_left
  · rintro w' ⟨s0, s1, s2, s3, s4, s5, s6, s7, s8, s9, s10, s11, s12, s13, s14, s15⟩
    go_simp
    with_reducible rfl
  rotate_left
  · simp only [Act.put, List.setIfInBounds_toArray, List.set_cons_zero, List.set_cons_succ, i64_w, i32_w]
    rfl
  refine one_ (i := 17) (N := some 93) (bm 30 524287) rfl rfl (one_of HT_.out (by kernel_rfl)) (by decide) (fun K hK => ?_)
  refine goes_ Try.func41 (by kernel_rfl) rfl #[.agg #[.bool (ng n1), .slice A4 (ln n1) c5, .bool (ng e1), .slice A6 (ln e1) c7], .agg #[.bool (ng n2), .slice A13 (ln n2) c14, .bool (ng e2), .slice A15 (ln e2) c16]] (by rfl) rfl rfl (by simp only [List.map_toArray, List.map_cons, List.map_nil]; try rfl) ?_
  with_reducible refine (AddR (H.row _ m7) (H.row _ m6) (H.row _ m5) (H.row _ m4) (limR bn1.out (by decide)) (limR be1.out (by decide)) (limR bn2.out (by decide)) (limR be2.out (by decide)) x1 y1 hv1.out).mono ?_
  rintro e w40 ⟨A41, c42, A43, c44, rfl, hr, hr2, hb⟩
  replace H := (H.got hr hb).more ((H.got hr2 hb).row _ m0)
  clear hr hr2 hb
  refine ⟨_, rfl, ?_⟩
  refine hK.out _ _ ⟨H.cell m3 0, H.cell m3 1, H.cell m3 2, H.cell m3 3, H.cell m2 0, H.cell m2 1, H.cell m2 2, H.cell m2 3, H.cell m1 0, H.cell m1 1, H.cell m1 2, H.cell m1 3, H.cell m0 0, H.cell m0 1, H.cell m0 2, H.cell m0 3⟩ (fun hQ => ?_)
  clear hK K
  refine norm_ (a' := ?_) ?_ ?_
  rotate_left
  · show Act.put _ (some 93) _ = _
    simp only [Act.put, List.setIfInBounds_toArray, List.set_cons_zero, List.set_cons_succ, i64_w, i32_w]
    rfl
  refine one_ (i := 19) (N := some 95) (bm 30 1048575) rfl rfl (one_of HT_.out (by kernel_rfl)) (by decide) (fun K hK => ?_)
  refine goes_ Try.func40 (by kernel_rfl) rfl #[.agg #[.bool (ng x1), .slice A41 (ln x1) c42, .bool (ng y1), .slice A43 (ln y1) c44], .agg #[.bool (ng n3), .slice A22 (ln n3) c23, .bool (ng e3), .slice A24 (ln e3) c25]] (by rfl) rfl rfl (by simp only [List.map_toArray, List.map_cons, List.map_nil]; try rfl) ?_
  with_reducible refine (Same_t (H.row _ m1) (H.row _ m0) (H.row _ m5) (H.row _ m4) (limR bx1.out (by decide)) (limR by1.out (by decide)) (limR bn3.out (by decide)) (limR be3.out (by decide)) (same1 eS.out) (same2 eS.out)).mono ?_
  rintro e w45 ⟨rfl, hb⟩
  replace H := H.call hb
  clear hb
  refine ⟨_, rfl, ?_⟩
  refine hK.out _ _ ⟨H.cell m3 0, H.cell m3 1, H.cell m3 2, H.cell m3 3, H.cell m2 0, H.cell m2 1, H.cell m2 2, H.cell m2 3, H.cell m1 0, H.cell m1 1, H.cell m1 2, H.cell m1 3, H.cell m0 0, H.cell m0 1, H.cell m0 2, H.cell m0 3⟩ (fun hQ => ?_)
  clear hK K
  refine norm_ (a' := ?_) ?_ ?_
  rotate_left
  · show Act.put _ (some 95) _ = _
    simp only [Act.put, List.setIfInBounds_toArray, List.set_cons_zero, List.set_cons_succ, i64_w, i32_w]
    rfl
  refine pure_ (i := 20) (N := some 96) (v := ?_) (a' := ?_) (bm 30 2097151) rfl rfl (any_of HT_.out (by kernel_rfl)) (fun _ _ _ h => h) (Or.inl ⟨by rfl, ?_⟩) ?_ ?_
  rotate_left
  · intro w'
    go_simp
    with_reducible rfl
  rotate_left
  · simp only [Act.put, List.setIfInBounds_toArray, List.set_cons_zero, List.set_cons_succ, i64_w, i32_w]
    rfl
  refine pure_ (i := 21) (N := some 97) (v := ?_) (a' := ?_) (bm 30 4194303) rfl rfl (any_of HT_.out (by kernel_rfl)) (fun _ _ _ h => h) (Or.inl ⟨by rfl, ?_⟩) ?_ ?_
  rotate_left
  · intro w'
    go_simp
    with_reducible rfl
  rotate_left
  · simp only [Act.put, List.setIfInBounds_toArray, List.set_cons_zero, List.set_cons_succ, i64_w, i32_w]
    rfl
  refine pure_ (i := 22) (N := some 98) (v := ?_) (a' := ?_) (bm 30 8388607) rfl rfl (any_of HT_.out (by kernel_rfl)) (fun _ _ _ h => h) (Or.inl ⟨by rfl, ?_⟩) ?_ ?_
  rotate_left
  · intro w'
    go_simp
    with_reducible rfl
  rotate_left
  · simp only [Act.put, List.setIfInBounds_toArray, List.set_cons_zero, List.set_cons_succ, i64_w, i32_w]
    rfl
  refine take_ (i := 23) (N := some 99) (v := ?_) (a' := ?_) (bm 30 16777215) rfl rfl (take_ofW HT_.out HW_.out (by kernel_rfl)) (fun _ _ _ h => h) (Or.inl ⟨by rfl, ?_⟩) hQ ?_ ?_
  rotate_left
  · rintro w' ⟨s0, s1, s2, s3, s4, s5, s6, s7, s8, s9, s10, s11, s12, s13, s14, s15⟩
    go_simp
    with_reducible rfl
  rotate_left
  · simp only [Act.put, List.setIfInBounds_toArray, List.set_cons_zero, List.set_cons_succ, i64_w, i32_w]
    rfl
  refine take_ (i := 24) (N := some 100) (v := ?_) (a' := ?_) (bm 30 33554431) rfl rfl (take_ofW HT_.out HW_.out (by kernel_rfl)) (fun _ _ _ h => h) (Or.inl ⟨by rfl, ?_⟩) hQ ?_ ?_
  rotate_left
  · rintro w' ⟨s0, s1, s2, s3, s4, s5, s6, s7, s8, s9, s10, s11, s12, s13, s14, s15⟩
    go_simp
    with_reducible rfl
  rotate_left
  · simp only [Act.put, List.setIfInBounds_toArray, List.set_cons_zero, List.set_cons_succ, i64_w, i32_w]
    rfl
  refine take_ (i := 26) (N := some 102) (v := ?_) (a' := ?_) (bm 30 100663295) rfl rfl (take_ofW HT_.out HW_.out (by kernel_rfl)) (fun _ _ _ h => h) (Or.inl ⟨by rfl, ?_⟩) hQ ?_ ?_
  rotate_left
  · rintro w' ⟨s0, s1, s2, s3, s4, s5, s6, s7, s8, s9, s10, s11, s12, s13, s14, s15⟩
    go_simp
    with_reducible rfl
  rotate_left
  · simp only [Act.put, List.setIfInBounds_toArray, List.set_cons_zero, List.set_cons_succ, i64_w, i32_w]
    rfl
  refine one_ (i := 25) (N := some 101) (bm 30 134217727) rfl rfl (one_of HT_.out (by kernel_rfl)) (by decide) (fun K hK => ?_)
  refine goes_ Try.func42 (by kernel_rfl) rfl #[.agg #[.bool (ng n1), .slice A4 (ln n1) c5, .bool (ng e1), .slice A6 (ln e1) c7], .agg #[.bool (ng n2), .slice A13 (ln n2) c14, .bool (ng e2), .slice A15 (ln e2) c16]] (by rfl) rfl rfl (by simp only [List.map_toArray, List.map_cons, List.map_nil]; try rfl) ?_
  with_reducible refine (MulR (H.row _ m9) (H.row _ m8) (H.row _ m7) (H.row _ m6) (limR bn1.out (by decide)) (limR be1.out (by decide)) (limR bn2.out (by decide)) (limR be2.out (by decide)) x2 y2 hv2.out).mono ?_
  rintro e w46 ⟨A47, c48, A49, c50, rfl, hr, hr2, hb⟩
  replace H := (H.got hr hb).more ((H.got hr2 hb).row _ m0)
  clear hr hr2 hb
  refine ⟨_, rfl, ?_⟩
  refine hK.out _ _ ⟨H.cell m3 0, H.cell m3 1, H.cell m3 2, H.cell m3 3, H.cell m2 0, H.cell m2 1, H.cell m2 2, H.cell m2 3, H.cell m1 0, H.cell m1 1, H.cell m1 2, H.cell m1 3, H.cell m0 0, H.cell m0 1, H.cell m0 2, H.cell m0 3⟩ (fun hQ => ?_)
  clear hK K
  refine norm_ (a' := ?_) ?_ ?_
  rotate_left
  · show Act.put _ (some 101) _ = _
    simp only [Act.put, List.setIfInBounds_toArray, List.set_cons_zero, List.set_cons_succ, i64_w, i32_w]
    rfl
  refine one_ (i := 27) (N := some 103) (bm 30 268435455) rfl rfl (one_of HT_.out (by kernel_rfl)) (by decide) (fun K hK => ?_)
  refine goes_ Try.func40 (by kernel_rfl) rfl #[.agg #[.bool (ng x2), .slice A47 (ln x2) c48, .bool (ng y2), .slice A49 (ln y2) c50], .agg #[.bool (ng n4), .slice A31 (ln n4) c32, .bool (ng e4), .slice A33 (ln e4) c34]] (by rfl) rfl rfl (by simp only [List.map_toArray, List.map_cons, List.map_nil]; try rfl) ?_
  with_reducible refine (Same_t (H.row _ m1) (H.row _ m0) (H.row _ m5) (H.row _ m4) (limR bx2.out (by decide)) (limR by2.out (by decide)) (limR bn4.out (by decide)) (limR be4.out (by decide)) (same1 eP.out) (same2 eP.out)).mono ?_
  rintro e w51 ⟨rfl, hb⟩
  replace H := H.call hb
  clear hb
  refine ⟨_, rfl, ?_⟩
  refine hK.out _ _ ⟨H.cell m3 0, H.cell m3 1, H.cell m3 2, H.cell m3 3, H.cell m2 0, H.cell m2 1, H.cell m2 2, H.cell m2 3, H.cell m1 0, H.cell m1 1, H.cell m1 2, H.cell m1 3, H.cell m0 0, H.cell m0 1, H.cell m0 2, H.cell m0 3⟩ (fun hQ => ?_)
  clear hK K
  refine norm_ (a' := ?_) ?_ ?_
  rotate_left
  · show Act.put _ (some 103) _ = _
    simp only [Act.put, List.setIfInBounds_toArray, List.set_cons_zero, List.set_cons_succ, i64_w, i32_w]
    rfl
  refine pure_ (i := 28) (N := some 104) (v := ?_) (a' := ?_) (bm 30 536870911) rfl rfl (any_of HT_.out (by kernel_rfl)) (fun _ _ _ h => h) (Or.inl ⟨by rfl, ?_⟩) ?_ ?_
  rotate_left
  · intro w'
    go_simp
    with_reducible rfl
  rotate_left
  · simp only [Act.put, List.setIfInBounds_toArray, List.set_cons_zero, List.set_cons_succ, i64_w, i32_w]
    rfl
  refine pure_ (i := 29) (N := some 105) (v := ?_) (a' := ?_) (bm 30 1073741823) rfl rfl (any_of HT_.out (by kernel_rfl)) (fun _ _ _ h => h) (Or.inl ⟨by rfl, ?_⟩) ?_ ?_
  rotate_left
  · intro w'
    go_simp
    with_reducible rfl
  rotate_left
  · simp only [Act.put, List.setIfInBounds_toArray, List.set_cons_zero, List.set_cons_succ, i64_w, i32_w]
    rfl
  refine done_ (done_of HT_.out (by kernel_rfl)) ?_
  try clear hQ
  go_upto_region 12 with fail
  (try simp only [Act.put, List.setIfInBounds_toArray, List.set_cons_zero, List.set_cons_succ])
  obtain ⟨k19_0, z19_0, k19_1, z19_1, k19_2, z19_2, k19_3, z19_3⟩ := H.b4 (g := g19) m0
  obtain ⟨k17_0, z17_0, k17_1, z17_1, k17_2, z17_2, k17_3, z17_3⟩ := H.b4 (g := g17) m1
  obtain ⟨k15_0, z15_0, k15_1, z15_1, k15_2, z15_2, k15_3, z15_3⟩ := H.b4 (g := g15) m2
  obtain ⟨k13_0, z13_0, k13_1, z13_1, k13_2, z13_2, k13_3, z13_3⟩ := H.b4 (g := g13) m3
  rcases hcs with ⟨z1, z2, z3, z4, z5⟩ | ⟨z1, z2, z3, z4, z5⟩ | ⟨z1, z2, z3, z4, z5⟩ | ⟨z1, z2, z3, z4, z5⟩
  · skip
    obtain ⟨q0, q1⟩ := div16 (m := a) (n := b) (by omega) (by omega)
    obtain ⟨r0, r1⟩ := mod16 (m := a) (n := b) (by omega) (by omega)
    have zB : b ≠ 0 := beq_eq_false_iff_ne.mp t1
    have z6 : ((a.tdiv b - 1) == (a.tdiv b - 1)) = true := by simp
    have z7 := Aside0.mk z4; have z8 := Aside0.mk z5; clear z4 z5
    have st55 := trivial
    have st57 := trivial
    go_wp2_with (first
      | (clear st55; go_at_call 43; (with_reducible refine (FloorR (H.row _ (mt m10)) (H.row _ m10) (limR bn1.out (by decide)) (limR be1.out (by decide)) f1 hf.out).mono ?_); rintro e w52 ⟨A53, c54, rfl, hr, hb⟩; replace H := H.got hr hb; clear hr hb; clear k19_0 z19_0 k19_1 z19_1 k19_2 z19_2 k19_3 z19_3 k17_0 z17_0 k17_1 z17_1 k17_2 z17_2 k17_3 z17_3 k15_0 z15_0 k15_1 z15_1 k15_2 z15_2 k15_3 z15_3 k13_0 z13_0 k13_1 z13_1 k13_2 z13_2 k13_3 z13_3; obtain ⟨k19_0, z19_0, k19_1, z19_1, k19_2, z19_2, k19_3, z19_3⟩ := H.b4 (g := g19) m0; obtain ⟨k17_0, z17_0, k17_1, z17_1, k17_2, z17_2, k17_3, z17_3⟩ := H.b4 (g := g17) m1; obtain ⟨k15_0, z15_0, k15_1, z15_1, k15_2, z15_2, k15_3, z15_3⟩ := H.b4 (g := g15) m2; obtain ⟨k13_0, z13_0, k13_1, z13_1, k13_2, z13_2, k13_3, z13_3⟩ := H.b4 (g := g13) m3)
      | (clear st57; go_at_call 29; (with_reducible refine (IntQ (H.row _ m0) (a.tdiv b - 1) true z7.out z8.out).mono ?_); rintro e w56 ⟨rfl, hb⟩; replace H := H.call hb; clear hb; clear k19_0 z19_0 k19_1 z19_1 k19_2 z19_2 k19_3 z19_3 k17_0 z17_0 k17_1 z17_1 k17_2 z17_2 k17_3 z17_3 k15_0 z15_0 k15_1 z15_1 k15_2 z15_2 k15_3 z15_3 k13_0 z13_0 k13_1 z13_1 k13_2 z13_2 k13_3 z13_3; obtain ⟨k19_0, z19_0, k19_1, z19_1, k19_2, z19_2, k19_3, z19_3⟩ := H.b4 (g := g19) m0; obtain ⟨k17_0, z17_0, k17_1, z17_1, k17_2, z17_2, k17_3, z17_3⟩ := H.b4 (g := g17) m1; obtain ⟨k15_0, z15_0, k15_1, z15_1, k15_2, z15_2, k15_3, z15_3⟩ := H.b4 (g := g15) m2; obtain ⟨k13_0, z13_0, k13_1, z13_1, k13_2, z13_2, k13_3, z13_3⟩ := H.b4 (g := g13) m3))
    go_ret
    exact ⟨rfl, H.below⟩
  · skip
    obtain ⟨q0, q1⟩ := div16 (m := a) (n := b) (by omega) (by omega)
    obtain ⟨r0, r1⟩ := mod16 (m := a) (n := b) (by omega) (by omega)
    have zB : b ≠ 0 := beq_eq_false_iff_ne.mp t1
    have z6 : ((a.tdiv b) == (a.tdiv b)) = true := by simp
    have z7 := Aside0.mk z4; have z8 := Aside0.mk z5; clear z4 z5
    have st61 := trivial
    have st63 := trivial
    go_wp2_with (first
      | (clear st61; go_at_call 43; (with_reducible refine (FloorR (H.row _ (mt m10)) (H.row _ m10) (limR bn1.out (by decide)) (limR be1.out (by decide)) f1 hf.out).mono ?_); rintro e w58 ⟨A59, c60, rfl, hr, hb⟩; replace H := H.got hr hb; clear hr hb; clear k19_0 z19_0 k19_1 z19_1 k19_2 z19_2 k19_3 z19_3 k17_0 z17_0 k17_1 z17_1 k17_2 z17_2 k17_3 z17_3 k15_0 z15_0 k15_1 z15_1 k15_2 z15_2 k15_3 z15_3 k13_0 z13_0 k13_1 z13_1 k13_2 z13_2 k13_3 z13_3; obtain ⟨k19_0, z19_0, k19_1, z19_1, k19_2, z19_2, k19_3, z19_3⟩ := H.b4 (g := g19) m0; obtain ⟨k17_0, z17_0, k17_1, z17_1, k17_2, z17_2, k17_3, z17_3⟩ := H.b4 (g := g17) m1; obtain ⟨k15_0, z15_0, k15_1, z15_1, k15_2, z15_2, k15_3, z15_3⟩ := H.b4 (g := g15) m2; obtain ⟨k13_0, z13_0, k13_1, z13_1, k13_2, z13_2, k13_3, z13_3⟩ := H.b4 (g := g13) m3)
      | (clear st63; go_at_call 29; (with_reducible refine (IntQ (H.row _ m0) (a.tdiv b) true z7.out z8.out).mono ?_); rintro e w62 ⟨rfl, hb⟩; replace H := H.call hb; clear hb; clear k19_0 z19_0 k19_1 z19_1 k19_2 z19_2 k19_3 z19_3 k17_0 z17_0 k17_1 z17_1 k17_2 z17_2 k17_3 z17_3 k15_0 z15_0 k15_1 z15_1 k15_2 z15_2 k15_3 z15_3 k13_0 z13_0 k13_1 z13_1 k13_2 z13_2 k13_3 z13_3; obtain ⟨k19_0, z19_0, k19_1, z19_1, k19_2, z19_2, k19_3, z19_3⟩ := H.b4 (g := g19) m0; obtain ⟨k17_0, z17_0, k17_1, z17_1, k17_2, z17_2, k17_3, z17_3⟩ := H.b4 (g := g17) m1; obtain ⟨k15_0, z15_0, k15_1, z15_1, k15_2, z15_2, k15_3, z15_3⟩ := H.b4 (g := g15) m2; obtain ⟨k13_0, z13_0, k13_1, z13_1, k13_2, z13_2, k13_3, z13_3⟩ := H.b4 (g := g13) m3))
    go_ret
    exact ⟨rfl, H.below⟩
  · skip
    obtain ⟨q0, q1⟩ := div16 (m := (-a)) (n := (-b)) (by omega) (by omega)
    obtain ⟨r0, r1⟩ := mod16 (m := (-a)) (n := (-b)) (by omega) (by omega)
    have zB : b ≠ 0 := beq_eq_false_iff_ne.mp t1
    have zN : -b ≠ 0 := by omega
    obtain ⟨q2, q3⟩ := div16 (m := a) (n := b) (by omega) (by omega)
    obtain ⟨r2, r3⟩ := mod16 (m := a) (n := b) (by omega) (by omega)
    have z9 : decide (-(a.tmod b) < 0) = true := by rw [Int.neg_tmod, Int.tmod_neg] at z3; exact z3
    have zA : decide (0 < a.tmod b) = true := by rw [← z9]; exact decide_eq_decide.mpr (by omega)
    have zC : (a.tdiv b - 1 == a.tdiv b - 1) = true := by simp
    rw [Int.neg_tdiv_neg] at z4
    have z6 : ((a.tdiv b - 1) == (a.tdiv b - 1)) = true := by simp
    have z7 := Aside0.mk z4; have z8 := Aside0.mk z5; clear z4 z5
    have st67 := trivial
    have st69 := trivial
    go_wp2_with (first
      | (clear st67; go_at_call 43; (with_reducible refine (FloorR (H.row _ (mt m10)) (H.row _ m10) (limR bn1.out (by decide)) (limR be1.out (by decide)) f1 hf.out).mono ?_); rintro e w64 ⟨A65, c66, rfl, hr, hb⟩; replace H := H.got hr hb; clear hr hb; clear k19_0 z19_0 k19_1 z19_1 k19_2 z19_2 k19_3 z19_3 k17_0 z17_0 k17_1 z17_1 k17_2 z17_2 k17_3 z17_3 k15_0 z15_0 k15_1 z15_1 k15_2 z15_2 k15_3 z15_3 k13_0 z13_0 k13_1 z13_1 k13_2 z13_2 k13_3 z13_3; obtain ⟨k19_0, z19_0, k19_1, z19_1, k19_2, z19_2, k19_3, z19_3⟩ := H.b4 (g := g19) m0; obtain ⟨k17_0, z17_0, k17_1, z17_1, k17_2, z17_2, k17_3, z17_3⟩ := H.b4 (g := g17) m1; obtain ⟨k15_0, z15_0, k15_1, z15_1, k15_2, z15_2, k15_3, z15_3⟩ := H.b4 (g := g15) m2; obtain ⟨k13_0, z13_0, k13_1, z13_1, k13_2, z13_2, k13_3, z13_3⟩ := H.b4 (g := g13) m3)
      | (clear st69; go_at_call 29; (with_reducible refine (IntQ (H.row _ m0) (a.tdiv b - 1) true z7.out z8.out).mono ?_); rintro e w68 ⟨rfl, hb⟩; replace H := H.call hb; clear hb; clear k19_0 z19_0 k19_1 z19_1 k19_2 z19_2 k19_3 z19_3 k17_0 z17_0 k17_1 z17_1 k17_2 z17_2 k17_3 z17_3 k15_0 z15_0 k15_1 z15_1 k15_2 z15_2 k15_3 z15_3 k13_0 z13_0 k13_1 z13_1 k13_2 z13_2 k13_3 z13_3; obtain ⟨k19_0, z19_0, k19_1, z19_1, k19_2, z19_2, k19_3, z19_3⟩ := H.b4 (g := g19) m0; obtain ⟨k17_0, z17_0, k17_1, z17_1, k17_2, z17_2, k17_3, z17_3⟩ := H.b4 (g := g17) m1; obtain ⟨k15_0, z15_0, k15_1, z15_1, k15_2, z15_2, k15_3, z15_3⟩ := H.b4 (g := g15) m2; obtain ⟨k13_0, z13_0, k13_1, z13_1, k13_2, z13_2, k13_3, z13_3⟩ := H.b4 (g := g13) m3))
    go_ret
    exact ⟨rfl, H.below⟩
  · skip
    obtain ⟨q0, q1⟩ := div16 (m := (-a)) (n := (-b)) (by omega) (by omega)
    obtain ⟨r0, r1⟩ := mod16 (m := (-a)) (n := (-b)) (by omega) (by omega)
    have zB : b ≠ 0 := beq_eq_false_iff_ne.mp t1
    have zN : -b ≠ 0 := by omega
    obtain ⟨q2, q3⟩ := div16 (m := a) (n := b) (by omega) (by omega)
    obtain ⟨r2, r3⟩ := mod16 (m := a) (n := b) (by omega) (by omega)
    have z9 : decide (-(a.tmod b) < 0) = false := by rw [Int.neg_tmod, Int.tmod_neg] at z3; exact z3
    have zA : decide (0 < a.tmod b) = false := by rw [← z9]; exact decide_eq_decide.mpr (by omega)
    have zC : (a.tdiv b == a.tdiv b) = true := by simp
    rw [Int.neg_tdiv_neg] at z4
    have z6 : ((a.tdiv b) == (a.tdiv b)) = true := by simp
    have z7 := Aside0.mk z4; have z8 := Aside0.mk z5; clear z4 z5
    have st73 := trivial
    have st75 := trivial
    go_wp2_with (first
      | (clear st73; go_at_call 43; (with_reducible refine (FloorR (H.row _ (mt m10)) (H.row _ m10) (limR bn1.out (by decide)) (limR be1.out (by decide)) f1 hf.out).mono ?_); rintro e w70 ⟨A71, c72, rfl, hr, hb⟩; replace H := H.got hr hb; clear hr hb; clear k19_0 z19_0 k19_1 z19_1 k19_2 z19_2 k19_3 z19_3 k17_0 z17_0 k17_1 z17_1 k17_2 z17_2 k17_3 z17_3 k15_0 z15_0 k15_1 z15_1 k15_2 z15_2 k15_3 z15_3 k13_0 z13_0 k13_1 z13_1 k13_2 z13_2 k13_3 z13_3; obtain ⟨k19_0, z19_0, k19_1, z19_1, k19_2, z19_2, k19_3, z19_3⟩ := H.b4 (g := g19) m0; obtain ⟨k17_0, z17_0, k17_1, z17_1, k17_2, z17_2, k17_3, z17_3⟩ := H.b4 (g := g17) m1; obtain ⟨k15_0, z15_0, k15_1, z15_1, k15_2, z15_2, k15_3, z15_3⟩ := H.b4 (g := g15) m2; obtain ⟨k13_0, z13_0, k13_1, z13_1, k13_2, z13_2, k13_3, z13_3⟩ := H.b4 (g := g13) m3)
      | (clear st75; go_at_call 29; (with_reducible refine (IntQ (H.row _ m0) (a.tdiv b) true z7.out z8.out).mono ?_); rintro e w74 ⟨rfl, hb⟩; replace H := H.call hb; clear hb; clear k19_0 z19_0 k19_1 z19_1 k19_2 z19_2 k19_3 z19_3 k17_0 z17_0 k17_1 z17_1 k17_2 z17_2 k17_3 z17_3 k15_0 z15_0 k15_1 z15_1 k15_2 z15_2 k15_3 z15_3 k13_0 z13_0 k13_1 z13_1 k13_2 z13_2 k13_3 z13_3; obtain ⟨k19_0, z19_0, k19_1, z19_1, k19_2, z19_2, k19_3, z19_3⟩ := H.b4 (g := g19) m0; obtain ⟨k17_0, z17_0, k17_1, z17_1, k17_2, z17_2, k17_3, z17_3⟩ := H.b4 (g := g17) m1; obtain ⟨k15_0, z15_0, k15_1, z15_1, k15_2, z15_2, k15_3, z15_3⟩ := H.b4 (g := g15) m2; obtain ⟨k13_0, z13_0, k13_1, z13_1, k13_2, z13_2, k13_3, z13_3⟩ := H.b4 (g := g13) m3))
    go_ret
    exact ⟨rfl, H.below⟩

theorem sma_walk (a b c d : Int) (w : World) (a0 : -32768 ≤ a) (a1 : a ≤ 32767) (b0 : -32768 ≤ b) (b1 : b ≤ 32767) (c0 : -32768 ≤ c) (c1 : c ≤ 32767) (d0 : -32768 ≤ d) (d1 : d ≤ 32767) : Calls Try.prog 7 #[.int .i16 a, .int .i16 b, .int .i16 c, .int .i16 d] w (fun e W' => e = .returned (.bool true) ∧ Below w.heap.size w W') := by
  by_cases hb : b = 0
  · exact sma_b a b c d w a0 a1 b0 b1 c0 c1 d0 d1 (beq_iff_eq.mpr hb)
  by_cases hd : d = 0
  · exact sma_d a b c d w a0 a1 b0 b1 c0 c1 d0 d1 (beq_eq_false_iff_ne.mpr hb) (beq_iff_eq.mpr hd)
  obtain ⟨ad0, ad1⟩ := mul16 (m := a) (n := d) (by omega) (by omega) (by omega) (by omega)
  obtain ⟨cb0, cb1⟩ := mul16 (m := c) (n := b) (by omega) (by omega) (by omega) (by omega)
  obtain ⟨bd0, bd1⟩ := mul16 (m := b) (n := d) (by omega) (by omega) (by omega) (by omega)
  obtain ⟨ac0, ac1⟩ := mul16 (m := a) (n := c) (by omega) (by omega) (by omega) (by omega)
  have hbd : b * d ≠ 0 := Int.mul_ne_zero hb hd
  have la : ln a ≤ 1 := ln_bound a 1 (by omega)
  have lb : ln b ≤ 1 := ln_bound b 1 (by omega)
  have lc : ln c ≤ 1 := ln_bound c 1 (by omega)
  have ld : ln d ≤ 1 := ln_bound d 1 (by omega)
  have ls : ln (a * d + c * b) ≤ 1 := ln_bound _ 1 (by omega)
  have lp : ln (a * c) ≤ 1 := ln_bound _ 1 (by omega)
  have lq : ln (b * d) ≤ 1 := ln_bound _ 1 (by omega)
  obtain ⟨n1, hn1⟩ : ∃ v, qn a b = v := ⟨_, rfl⟩
  obtain ⟨e1, he1⟩ : ∃ v, qd a b = v := ⟨_, rfl⟩
  obtain ⟨n2, hn2⟩ : ∃ v, qn c d = v := ⟨_, rfl⟩
  obtain ⟨e2, he2⟩ : ∃ v, qd c d = v := ⟨_, rfl⟩
  obtain ⟨n3, hn3⟩ : ∃ v, qn (a * d + c * b) (b * d) = v := ⟨_, rfl⟩
  obtain ⟨e3, he3⟩ : ∃ v, qd (a * d + c * b) (b * d) = v := ⟨_, rfl⟩
  obtain ⟨n4, hn4⟩ : ∃ v, qn (a * c) (b * d) = v := ⟨_, rfl⟩
  obtain ⟨e4, he4⟩ : ∃ v, qd (a * c) (b * d) = v := ⟨_, rfl⟩
  obtain ⟨x1, y1, hv1⟩ : ∃ x1 y1, qn (n1 * dd e2 + n2 * dd e1) (dd e1 * dd e2) = x1 ∧ qd (n1 * dd e2 + n2 * dd e1) (dd e1 * dd e2) = y1 := ⟨_, _, rfl, rfl⟩
  obtain ⟨x2, y2, hv2⟩ : ∃ x2 y2, qn (n1 * n2) (dd e1 * dd e2) = x2 ∧ qd (n1 * n2) (dd e1 * dd e2) = y2 := ⟨_, _, rfl, rfl⟩
  have L1 := Lo.q hb hn1 he1
  have L2 := Lo.q hd hn2 he2
  have L3 := Lo.q hbd hn3 he3
  have L4 := Lo.q hbd hn4 he4
  have M1 := bQn (d := b) la hn1
  have M2 := bQd (n := a) lb he1
  have M3 := bQn (d := d) lc hn2
  have M4 := bQd (n := c) ld he2
  have K1 := bA2 M1 M2 M3 M4 (Nat.le_refl 1) hv1
  have K2 := bM2 M1 M2 M3 M4 (Nat.le_refl 1) hv2
  have up : ∀ {x : Int}, ln x ≤ 1 → ln x ≤ 20000 := fun h => Nat.le_trans h (by decide)
  have up3 : ∀ {x : Int}, ln x ≤ 3 → ln x ≤ 20000 := fun h => Nat.le_trans h (by decide)
  have hF : flr n1 e1 = if b < 0 then flr (-a) (-b) else flr a b := by
    by_cases h : b < 0
    · rw [if_pos h]
      exact flr_low (L1.tr (a := -a) (b := -b) (by omega) (by grind)) (by omega)
    · rw [if_neg h]
      exact flr_low L1 (by omega)
  have q1 := div16 (m := a) (n := b) (by omega) (by omega)
  have q2 := div16 (m := -a) (n := -b) (by omega) (by omega)
  have fin : ∀ {t u : Int}, t = u → -40000 ≤ u → u ≤ 40000 → intOfI t = u ∧ fitsI t = true := by
    intro t u h h0 h1
    subst h
    exact ⟨by unfold intOfI; rw [if_pos ⟨by omega, by omega⟩], decide_eq_true ⟨by omega, by omega⟩⟩
  have bF : ln (flr n1 e1) ≤ 20000 := Nat.le_trans (bFlr (a := 1) M1 rfl) (by decide)
  refine sma_t a b c d w a0 a1 b0 b1 c0 c1 d0 d1 n1 e1 n2 e2 n3 e3 n4 e4 x1 y1 x2 y2 (flr n1 e1) ⟨up M1⟩ ⟨up M2⟩ ⟨up M3⟩ ⟨up M4⟩ ⟨up (bQn (d := b * d) ls hn3)⟩ ⟨up (bQd (n := a * d + c * b) lq he3)⟩ ⟨up (bQn (d := b * d) lp hn4)⟩ ⟨up (bQd (n := a * c) lq he4)⟩ ⟨up3 K1.1⟩ ⟨up3 K1.2⟩ ⟨up3 K2.1⟩ ⟨up3 K2.2⟩ ⟨bF⟩ (beq_eq_false_iff_ne.mpr hb) (beq_eq_false_iff_ne.mpr hd)
    ⟨⟨hn1, he1, if_neg hb⟩, ⟨by omega, by omega⟩, ⟨by omega, by omega⟩⟩ ⟨⟨hn2, he2, if_neg hd⟩, ⟨by omega, by omega⟩, ⟨by omega, by omega⟩⟩ ⟨⟨hn3, he3, if_neg hbd⟩, ⟨by omega, by omega⟩, ⟨by omega, by omega⟩⟩ ⟨⟨hn4, he4, if_neg hbd⟩, ⟨by omega, by omega⟩, ⟨by omega, by omega⟩⟩
    ⟨hv1⟩ ⟨Lo.uniq (L1.add L2 hv1) L3 (by grind)⟩ ⟨hv2⟩ ⟨Lo.uniq (L1.mul L2 hv2) L4 (by grind)⟩ ⟨rfl⟩ ?_
  rw [hF]
  by_cases h : b < 0
  · rw [if_pos h, flr_val (by omega)]
    by_cases k : (-a).tmod (-b) < 0
    · rw [if_pos k]
      exact .inr (.inr (.inl ⟨decide_eq_true h, beq_eq_false_iff_ne.mpr (by omega), decide_eq_true k, (fin rfl (by omega) (by omega)).1, (fin rfl (by omega) (by omega)).2⟩))
    · rw [if_neg k]
      exact .inr (.inr (.inr ⟨decide_eq_true h, beq_eq_false_iff_ne.mpr (by omega), decide_eq_false k, (fin rfl (by omega) (by omega)).1, (fin rfl (by omega) (by omega)).2⟩))
  · rw [if_neg h, flr_val (by omega)]
    by_cases k : a.tmod b < 0
    · rw [if_pos k]
      exact .inl ⟨decide_eq_false h, beq_eq_false_iff_ne.mpr (by omega), decide_eq_true k, (fin rfl (by omega) (by omega)).1, (fin rfl (by omega) (by omega)).2⟩
    · rw [if_neg k]
      exact .inr (.inl ⟨decide_eq_false h, beq_eq_false_iff_ne.mpr (by omega), decide_eq_false k, (fin rfl (by omega) (by omega)).1, (fin rfl (by omega) (by omega)).2⟩)

end Go.Proofs.Ytdkapdgbfejgdaa
