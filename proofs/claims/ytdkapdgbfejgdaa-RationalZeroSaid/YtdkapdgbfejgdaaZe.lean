/- The walk of the law RationalZero. -/
import Derived.Test.YtdkapdgbfejgdaaRl
namespace Go.Proofs.Ytdkapdgbfejgdaa
open Go.RowKit Go.Proofs.YtdkapdgbfejgdaaW.PrintWords Go.Proofs.YtdkapdgbfejgdaaW.PrintLast Go.Proofs.YtdkapdgbfejgdaaW.PrintMore
set_option linter.unusedSimpArgs false
set_option linter.unusedVariables false
set_option maxHeartbeats 8000000
set_option maxRecDepth 100000

theorem wf_int {a : Int} (h : (Lit.int .i64 a).wf = true) : -9223372036854775808 ≤ a ∧ a ≤ 9223372036854775807 := by
  simp only [Lit.wf, Bool.and_eq_true, decide_eq_true_eq] at h
  exact h

/-- What Parse hands back is not great. -/
theorem rp_lim {s : ByteArray} {n d e : Int} (h : rp s = (n, d, e)) : ln n ≤ 512 ∧ ln d ≤ 512 := by
  by_cases he : e = 0
  · subst he
    obtain ⟨-, -, h1, h2⟩ := rpL h
    exact ⟨h1, h2⟩
  · have : 0 = n ∧ 0 = d := by
      unfold rp at h
      split at h
      · obtain ⟨h1, h2, -⟩ : 0 = n ∧ 0 = d ∧ 5 = e := by simpa using h
        exact ⟨h1, h2⟩
      · obtain ⟨⟨a, e'⟩, ha⟩ : ∃ v, pr (cutL s) = v := ⟨_, rfl⟩
        obtain ⟨⟨b, f⟩, hb⟩ : ∃ v, pr (if cutF s = true then cutR s else ⟨#[49]⟩) = v := ⟨_, rfl⟩
        simp only [ha, hb] at h
        split at h
        · obtain ⟨h1, h2, -⟩ : 0 = n ∧ 0 = d ∧ 3 = e := by simpa using h
          exact ⟨h1, h2⟩
        · split at h
          · obtain ⟨-, -, h3⟩ : qn a b = n ∧ qd a b = d ∧ 0 = e := by simpa using h
            exact absurd h3.symm he
          · obtain ⟨h1, h2, -⟩ : 0 = n ∧ 0 = d ∧ 3 = e := by simpa using h
            exact ⟨h1, h2⟩
    obtain ⟨rfl, rfl⟩ := this
    exact ⟨Nat.zero_le _, Nat.zero_le _⟩
theorem qn_0 (d : Int) : qn 0 d = 0 := by unfold qn; split; · rfl
                                          · split <;> simp

def tb9.T6 : Bool × List (List Nat × List Nat) := (true, [([], []), ([], []), ([0, 1, 1], [0, 1]), ([2], [2]), ([3, 2], [3]), ([4], [4]), ([5, 4, 4], [4, 5]), ([6, 4], [4, 6]), ([4, 7], [4, 7]), ([8, 6], [8]), ([9], [9]), ([10, 9, 9], [9, 10]), ([11, 11, 9], [9, 11]), ([12, 9], [9, 12]), ([9, 13], [9, 13]), ([14, 12], [14]), ([15], [15]), ([16, 15, 15], [15, 16]), ([17, 17, 15], [15, 17]), ([18, 15], [15, 18]), ([15, 19], [15, 19]), ([20, 18], [20]), ([21], [21]), ([22, 21, 21], [21, 22]), ([23, 23, 21], [21, 23]), ([24, 21], [21, 24]), ([21, 25], [21, 25]), ([26, 24], [26]), ([27], [27]), ([28, 27], [27, 28]), ([27, 29], [27, 29]), ([30, 27], [30]), ([31], [31]), ([31], [31]), ([32, 33, 31], [31, 32, 33]), ([31, 34], [31, 34]), ([35, 31], [35]), ([36], [36]), ([37, 36, 36], [36, 37]), ([38, 38, 36], [36, 38]), ([39, 36], [36, 39]), ([36, 40], [36, 40])])
def tb9.B6 : List Nat := [0, 0, 3, 7, 15, 31, 63, 127, 255, 511, 1023, 2047, 4095, 8191, 16383, 32767, 65535, 131071, 262143, 524287, 1048575, 2097151, 4194303, 8388607, 16777215, 33554431, 67108863, 134217727, 268435455, 536870911, 1073741823, 2147483647, 4294967295, 4294967295, 17179869183, 34359738367, 68719476735, 137438953471, 274877906943, 549755813887, 1099511627775, 2199023255551]
theorem tb9.tab6 : rtab .any (opsOf Try.f9 6) = tb9.T6 := by kernel_rfl
theorem tb9.bits6 : waitsOk tb9.T6.2 tb9.B6 = true := by kernel_rfl
def tb9.T17 : Bool × List (List Nat × List Nat) := (true, [([], []), ([0], [0]), ([], []), ([1, 2], [1, 2]), ([3, 1], [3]), ([4], [4]), ([4], [4]), ([5, 6, 4, 4], [4, 5, 6]), ([4], [4]), ([7, 8, 7, 4], [4, 7, 8]), ([4, 9], [4, 9]), ([10, 9], [10]), ([11], [11]), ([11], [11]), ([12, 13, 11, 11], [11, 12, 13]), ([14, 14, 11], [11, 14]), ([15, 11], [11, 15]), ([11, 16], [11, 16]), ([17, 15], [17]), ([18], [18]), ([18], [18]), ([19, 20, 18, 18], [18, 19, 20]), ([18], [18]), ([22, 21, 18], [18, 22]), ([21, 23, 23, 18], [18, 21, 23]), ([18, 24], [18, 24]), ([25, 24], [25]), ([26], [26]), ([27, 26], [26, 27]), ([26, 28], [26, 28]), ([29, 26, 0, 1, 2, 3, 4, 5, 6, 7, 8, 9, 10, 11, 12, 13, 14, 15, 16, 17, 18, 19, 20, 21, 22, 23, 24, 25, 26, 27, 28, 29], [29])])
def tb9.B17 : List Nat := [0, 1, 0, 7, 15, 31, 31, 127, 31, 511, 1023, 2047, 4095, 4095, 16383, 32767, 65535, 131071, 262143, 524287, 524287, 2097151, 524287, 8388607, 16777215, 33554431, 67108863, 134217727, 268435455, 536870911, 1073741823]
theorem tb9.tab17 : rtab .any (opsOf Try.f9 17) = tb9.T17 := by kernel_rfl
theorem tb9.bits17 : waitsOk tb9.T17.2 tb9.B17 = true := by kernel_rfl

theorem zer_t (a : ByteArray) (n : Int) (w : World) (o o2 n1 z1 n2 z3 z4 d1 f1 c1 d2 p q er k4 x1 y1 x2 y2 x3 y3 x4 y4 x5 y5 x6 y6 x7 y7 x8 y8 x9 y9 x10 y10 : Int) (bl : Bool) (bo : Aside0 (ln o ≤ 20000)) (bo2 : Aside0 (ln o2 ≤ 20000)) (bn1 : Aside0 (ln n1 ≤ 20000)) (bz1 : Aside0 (ln z1 ≤ 20000)) (bn2 : Aside0 (ln n2 ≤ 20000)) (bz3 : Aside0 (ln z3 ≤ 20000)) (bz4 : Aside0 (ln z4 ≤ 20000)) (bd1 : Aside0 (ln d1 ≤ 20000)) (bf1 : Aside0 (ln f1 ≤ 20000)) (bc1 : Aside0 (ln c1 ≤ 20000)) (bd2 : Aside0 (ln d2 ≤ 20000)) (bp : Aside0 (ln p ≤ 20000)) (bq : Aside0 (ln q ≤ 20000)) (bx1 : Aside0 (ln x1 ≤ 20000)) (by1 : Aside0 (ln y1 ≤ 20000)) (bx2 : Aside0 (ln x2 ≤ 20000)) (by2 : Aside0 (ln y2 ≤ 20000)) (bx3 : Aside0 (ln x3 ≤ 20000)) (by3 : Aside0 (ln y3 ≤ 20000)) (bx4 : Aside0 (ln x4 ≤ 20000)) (by4 : Aside0 (ln y4 ≤ 20000)) (bx5 : Aside0 (ln x5 ≤ 20000)) (by5 : Aside0 (ln y5 ≤ 20000)) (bx6 : Aside0 (ln x6 ≤ 20000)) (by6 : Aside0 (ln y6 ≤ 20000)) (bx7 : Aside0 (ln x7 ≤ 20000)) (by7 : Aside0 (ln y7 ≤ 20000)) (bx8 : Aside0 (ln x8 ≤ 20000)) (by8 : Aside0 (ln y8 ≤ 20000)) (bx9 : Aside0 (ln x9 ≤ 20000)) (by9 : Aside0 (ln y9 ≤ 20000)) (bx10 : Aside0 (ln x10 ≤ 20000)) (by10 : Aside0 (ln y10 ≤ 20000))
    (hla : Aside0 (decide (200 < (a.size : Int)) = bl)) (hcs : Aside0 (bl = true ∨ (bl = false ∧ (er != 0) = true) ∨ (bl = false ∧ er = 0))) (eo : Aside0 (o = 0)) (eo2 : Aside0 (o2 = 0)) (hof : Aside0 (n = n1 ∧ 0 = z1 ∧ -9223372036854775808 ≤ n ∧ n ≤ 9223372036854775807)) (hn2 : Aside0 (n1 = n2)) (hi1 : Aside0 (intOfI n2 = n)) (hi2 : Aside0 (fitsI n2 = true)) (hz : Aside0 ((0 : Int) = z3 ∧ 0 = z4 ∧ -9223372036854775808 ≤ (0 : Int) ∧ (0 : Int) ≤ 9223372036854775807))
    (ht0 : Aside0 (qt o o2 = ⟨#[48]⟩)) (hd1 : Aside0 (dd o2 = d1)) (ht1 : Aside0 (tx d1 = ⟨#[49]⟩)) (hf1 : Aside0 (flr o o2 = f1)) (hs1 : Aside0 (sg f1 = 0)) (hc1 : Aside0 (-(flr (-o) o2) = c1)) (hs2 : Aside0 (sg c1 = 0)) (hd2 : Aside0 (dd z1 = d2)) (ht2 : Aside0 (tx d2 = ⟨#[49]⟩)) (hp : Aside0 (rp a = (p, q, er))) (tn : (n != n) = false) (ta : (a.toList == a.toList) = true)
    (eZ : Aside0 (o = z3 ∧ o2 = z4))
    (hv1 : Aside0 (qn (p * dd z1 + n1 * dd q) (dd q * dd z1) = x1 ∧ qd (p * dd z1 + n1 * dd q) (dd q * dd z1) = y1))
    (hv2 : Aside0 (qn (p * n1) (dd q * dd z1) = x2 ∧ qd (p * n1) (dd q * dd z1) = y2))
    (hv3 : Aside0 (-p = x3 ∧ q = y3))
    (hv4 : Aside0 (qn (p * dd z1) (dd q * n1) = x4 ∧ qd (p * dd z1) (dd q * n1) = y4 ∧ qe (dd q * n1) = k4))
    (hv5 : Aside0 (qn (p * dd q + -p * dd q) (dd q * dd q) = x5 ∧ qd (p * dd q + -p * dd q) (dd q * dd q) = y5))
    (hv6 : Aside0 (qn (p * dd o2) (dd q * o) = x6 ∧ qd (p * dd o2) (dd q * o) = y6 ∧ qe (dd q * o) = 9))
    (hv7 : Aside0 (qn (p * dd o2 + o * dd q) (dd q * dd o2) = x7 ∧ qd (p * dd o2 + o * dd q) (dd q * dd o2) = y7))
    (eV7_x : Aside0 (er = 0 → x7 = p ∧ y7 = q))
    (hv8 : Aside0 (qn (p * o) (dd q * dd o2) = x8 ∧ qd (p * o) (dd q * dd o2) = y8))
    (hv9 : Aside0 (qn (o * dd q + -p * dd o2) (dd o2 * dd q) = x9 ∧ qd (o * dd q + -p * dd o2) (dd o2 * dd q) = y9))
    (hv10 : Aside0 (-p = x10 ∧ q = y10))
    (eV9_V10 : Aside0 (er = 0 → x9 = x10 ∧ y9 = y10))
    (htx : Aside0 (er = 0 → qt p q = a))
    (hs8 : Aside0 (sg x8 = 0)) : Calls Try.prog 9 #[.string a, .int .i64 n] w (fun e W' => e = .returned (.bool true) ∧ Below w.heap.size w W') := by
  have hu25 := Try.underlying25
  have hu51 := Try.underlying51
  have H := Sit.start w (fun _ => False)
  go_enter Try.func9, Try.ntmps9
  have st2 := trivial
  have st4 := trivial
  have st10 := trivial
  have st12 := trivial
  go_upto_region 5 with (first
    | (clear st2; go_at_call 38; (with_reducible refine (awake2 _).mono ?_); rintro e wA ⟨rfl, hb⟩; replace H := H.call hb; clear hb)
    | (clear st4; (with_reducible refine gate_dst (N := 5) rfl ?_); refine box_event ?hg (N := 5) ?hd (cs := #[.bool false, .slice none 0 0, .bool false, .slice none 0 0]) (t := 51) ?hr ?_; (case hd => rfl); (case hg => rfl); (case hr => go_simp; try rfl); intro g5 hg w3 hbox hb; replace H := H.newbox hg hbox hb; clear hg hbox hb; obtain ⟨k5_0, z5_0, k5_1, z5_1, k5_2, z5_2, k5_3, z5_3⟩ := H.b4 (g := g5) m0)
    | (clear st10; go_at_call 44; (with_reducible refine (OfR _ n n1 z1 hof.out).mono ?_); rintro e w5 ⟨A6, c7, A8, c9, rfl, hr, hr2, hb⟩; replace H := (H.got (fresh_row hr) hb).more ((H.got (fresh_row hr2) hb).row _ m0); clear hr hr2 hb; clear k5_0 z5_0 k5_1 z5_1 k5_2 z5_2 k5_3 z5_3; obtain ⟨k5_0, z5_0, k5_1, z5_1, k5_2, z5_2, k5_3, z5_3⟩ := H.b4 (g := g5) m0)
    | (clear st12; (with_reducible refine gate_dst (N := 6) rfl ?_); refine box_event ?hg (N := 6) ?hd (cs := #[.bool false, .slice none 0 0, .bool false, .slice none 0 0]) (t := 51) ?hr ?_; (case hd => rfl); (case hg => rfl); (case hr => go_simp; try rfl); intro g6 hg w11 hbox hb; replace H := H.newbox hg hbox hb; clear hg hbox hb; clear k5_0 z5_0 k5_1 z5_1 k5_2 z5_2 k5_3 z5_3; obtain ⟨k6_0, z6_0, k6_1, z6_1, k6_2, z6_2, k6_3, z6_3⟩ := H.b4 (g := g6) m0; obtain ⟨k5_0, z5_0, k5_1, z5_1, k5_2, z5_2, k5_3, z5_3⟩ := H.b4 (g := g5) m1; have ne_g6_g5 := H.ne (g := g6) (g' := g5) 0 1 rfl rfl (by decide); have ne_g5_g6 := ne_g6_g5.symm))
  (try simp only [Act.put, List.setIfInBounds_toArray, List.set_cons_zero, List.set_cons_succ])
  replace H := H.set4 [] (.bool (ng n1)) (.slice A6 (ln n1) c7) (.bool (ng z1)) (.slice A8 (ln z1) c9)
  clear k6_0 z6_0 k6_1 z6_1 k6_2 z6_2 k6_3 z6_3 k5_0 z5_0 k5_1 z5_1 k5_2 z5_2 k5_3 z5_3
  generalize ((((w11.setCell ⟨g6, 0, none⟩ (.bool (ng n1))).setCell ⟨g6, 1, none⟩ (.slice A6 (ln n1) c7)).setCell ⟨g6, 2, none⟩ (.bool (ng z1))).setCell ⟨g6, 3, none⟩ (.slice A8 (ln z1) c9)) = w13 at H ⊢
  obtain ⟨k6_0, z6_0, k6_1, z6_1, k6_2, z6_2, k6_3, z6_3⟩ := H.b4 (g := g6) m0
  obtain ⟨k5_0, z5_0, k5_1, z5_1, k5_2, z5_2, k5_3, z5_3⟩ := H.b4 (g := g5) m1
  clear k6_0 z6_0 k6_1 z6_1 k6_2 z6_2 k6_3 z6_3 k5_0 z5_0 k5_1 z5_1 k5_2 z5_2 k5_3 z5_3
  replace H := Sit.zrat [_] eo.out eo2.out H
  obtain ⟨k6_0, z6_0, k6_1, z6_1, k6_2, z6_2, k6_3, z6_3⟩ := H.b4 (g := g6) m0
  obtain ⟨k5_0, z5_0, k5_1, z5_1, k5_2, z5_2, k5_3, z5_3⟩ := H.b4 (g := g5) m1
  have st17 := trivial
  have st19 := trivial
  go_upto_region 6 with (first
    | (clear st17; go_at_call 45; (with_reducible refine (NumQ (H.row _ m3) (H.row _ m2) (limR bn1.out (by decide)) (limR bz1.out (by decide)) n2 hn2.out).mono ?_); rintro e w14 ⟨A15, c16, rfl, hr, hb⟩; replace H := H.got hr hb; clear hr hb; clear k6_0 z6_0 k6_1 z6_1 k6_2 z6_2 k6_3 z6_3 k5_0 z5_0 k5_1 z5_1 k5_2 z5_2 k5_3 z5_3; obtain ⟨k6_0, z6_0, k6_1, z6_1, k6_2, z6_2, k6_3, z6_3⟩ := H.b4 (g := g6) m0; obtain ⟨k5_0, z5_0, k5_1, z5_1, k5_2, z5_2, k5_3, z5_3⟩ := H.b4 (g := g5) m1)
    | (clear st19; go_at_call 29; (with_reducible refine (IntQ (H.row _ m0) n true hi1.out hi2.out).mono ?_); rintro e w18 ⟨rfl, hb⟩; replace H := H.call hb; clear hb; clear k6_0 z6_0 k6_1 z6_1 k6_2 z6_2 k6_3 z6_3 k5_0 z5_0 k5_1 z5_1 k5_2 z5_2 k5_3 z5_3; obtain ⟨k6_0, z6_0, k6_1, z6_1, k6_2, z6_2, k6_3, z6_3⟩ := H.b4 (g := g6) m0; obtain ⟨k5_0, z5_0, k5_1, z5_1, k5_2, z5_2, k5_3, z5_3⟩ := H.b4 (g := g5) m1))
  (try simp only [Act.put, List.setIfInBounds_toArray, List.set_cons_zero, List.set_cons_succ])
  clear k6_0 z6_0 k6_1 z6_1 k6_2 z6_2 k6_3 z6_3 k5_0 z5_0 k5_1 z5_1 k5_2 z5_2 k5_3 z5_3
  replace H := H.drew
  refine start_ (n := 42) (S := fun w' => w'.cell? ⟨g5, 0, none⟩ = some (.bool (ng o)) ∧ w'.cell? ⟨g5, 1, none⟩ = some (.slice none (ln o) 0) ∧ w'.cell? ⟨g5, 2, none⟩ = some (.bool (ng o2)) ∧ w'.cell? ⟨g5, 3, none⟩ = some (.slice none (ln o2) 0) ∧ w'.cell? ⟨g6, 0, none⟩ = some (.bool (ng n1)) ∧ w'.cell? ⟨g6, 1, none⟩ = some (.slice A6 (ln n1) c7) ∧ w'.cell? ⟨g6, 2, none⟩ = some (.bool (ng z1)) ∧ w'.cell? ⟨g6, 3, none⟩ = some (.slice A8 (ln z1) c9)) (ds := []) #[false, false, false, false, false, false, false, false, false, false, false, false, false, false, false, false, false, false, false, false, false, false, false, false, false, false, false, false, false, false, false, false, false, false, false, false, false, false, false, false, false, false] (by kernel_rfl) rfl rfl ⟨H.cell m1 0, H.cell m1 1, H.cell m1 2, H.cell m1 3, H.cell m0 0, H.cell m0 1, H.cell m0 2, H.cell m0 3⟩ (fun hQ => ?_)
  generalize w18.drew = w20 at H hQ ⊢
  refine with_tabW tb9.tab6 tb9.bits6 (fun HT_ HW_ => ?_)
  refine take_ (i := 0) (N := some 23) (v := ?_) (a' := ?_) (bm 42 1) rfl rfl (take_ofW HT_.out HW_.out (by kernel_rfl)) (fun _ _ _ h => h) (Or.inl ⟨by rfl, ?_⟩) hQ ?_ ?_
  rotate_left
  · rintro w' ⟨s0, s1, s2, s3, s4, s5, s6, s7⟩
    go_simp
    with_reducible rfl
  rotate_left
  · simp only [Act.put, List.setIfInBounds_toArray, List.set_cons_zero, List.set_cons_succ, i64_w, i32_w]
    rfl
  refine one_ (i := 1) (N := some 24) (bm 42 3) rfl rfl (one_of HT_.out (by kernel_rfl)) (by decide) (fun K hK => ?_)
  refine goes_ Try.func44 (by kernel_rfl) rfl #[.int .i64 0] (by rfl) rfl rfl (by simp only [List.map_toArray, List.map_cons, List.map_nil]; try rfl) ?_
  with_reducible refine (OfR _ 0 z3 z4 hz.out).mono ?_
  rintro e w21 ⟨A22, c23, A24, c25, rfl, hr, hr2, hb⟩
  replace H := (H.got (fresh_row hr) hb).more ((H.got (fresh_row hr2) hb).row _ m0)
  clear hr hr2 hb
  refine ⟨_, rfl, ?_⟩
  refine hK.out _ _ ⟨H.cell m1 0, H.cell m1 1, H.cell m1 2, H.cell m1 3, H.cell m0 0, H.cell m0 1, H.cell m0 2, H.cell m0 3⟩ (fun hQ => ?_)
  clear hK K
  refine norm_ (a' := ?_) ?_ ?_
  rotate_left
  · show Act.put _ (some 24) _ = _
    simp only [Act.put, List.setIfInBounds_toArray, List.set_cons_zero, List.set_cons_succ, i64_w, i32_w]
    rfl
  refine one_ (i := 2) (N := some 25) (bm 42 7) rfl rfl (one_of HT_.out (by kernel_rfl)) (by decide) (fun K hK => ?_)
  refine goes_ Try.func40 (by kernel_rfl) rfl #[.agg #[.bool (ng o), .slice none (ln o) 0, .bool (ng o2), .slice none (ln o2) 0], .agg #[.bool (ng z3), .slice A22 (ln z3) c23, .bool (ng z4), .slice A24 (ln z4) c25]] (by rfl) rfl rfl (by simp only [List.map_toArray, List.map_cons, List.map_nil]; try rfl) ?_
  with_reducible refine (Same_t (H.row _ m3) (H.row _ m4) (H.row _ m1) (H.row _ m0) (limR bo.out (by decide)) (limR bo2.out (by decide)) (limR bz3.out (by decide)) (limR bz4.out (by decide)) (same1 eZ.out) (same2 eZ.out)).mono ?_
  rintro e w26 ⟨rfl, hb⟩
  replace H := H.call hb
  clear hb
  refine ⟨_, rfl, ?_⟩
  refine hK.out _ _ ⟨H.cell m1 0, H.cell m1 1, H.cell m1 2, H.cell m1 3, H.cell m0 0, H.cell m0 1, H.cell m0 2, H.cell m0 3⟩ (fun hQ => ?_)
  clear hK K
  refine norm_ (a' := ?_) ?_ ?_
  rotate_left
  · show Act.put _ (some 25) _ = _
    simp only [Act.put, List.setIfInBounds_toArray, List.set_cons_zero, List.set_cons_succ, i64_w, i32_w]
    rfl
  refine pure_ (i := 3) (N := some 26) (v := ?_) (a' := ?_) (bm 42 15) rfl rfl (any_of HT_.out (by kernel_rfl)) (fun _ _ _ h => h) (Or.inl ⟨by rfl, ?_⟩) ?_ ?_
  rotate_left
  · intro w'
    go_simp
    with_reducible rfl
  rotate_left
  · simp only [Act.put, List.setIfInBounds_toArray, List.set_cons_zero, List.set_cons_succ, i64_w, i32_w]
    rfl
  refine pure_ (i := 4) (N := some 27) (v := ?_) (a' := ?_) (bm 42 31) rfl rfl (any_of HT_.out (by kernel_rfl)) (fun _ _ _ h => h) (Or.inl ⟨by rfl, ?_⟩) ?_ ?_
  rotate_left
  · intro w'
    go_simp
    with_reducible rfl
  rotate_left
  · simp only [Act.put, List.setIfInBounds_toArray, List.set_cons_zero, List.set_cons_succ, i64_w, i32_w]
    rfl
  refine take_ (i := 5) (N := some 28) (v := ?_) (a' := ?_) (bm 42 63) rfl rfl (take_ofW HT_.out HW_.out (by kernel_rfl)) (fun _ _ _ h => h) (Or.inl ⟨by rfl, ?_⟩) hQ ?_ ?_
  rotate_left
  · rintro w' ⟨s0, s1, s2, s3, s4, s5, s6, s7⟩
    go_simp
    with_reducible rfl
  rotate_left
  · simp only [Act.put, List.setIfInBounds_toArray, List.set_cons_zero, List.set_cons_succ, i64_w, i32_w]
    rfl
  refine one_ (i := 6) (N := some 29) (bm 42 127) rfl rfl (one_of HT_.out (by kernel_rfl)) (by decide) (fun K hK => ?_)
  refine goes_ Try.func46 (by kernel_rfl) rfl #[.agg #[.bool (ng o), .slice none (ln o) 0, .bool (ng o2), .slice none (ln o2) 0]] (by rfl) rfl rfl (by simp only [List.map_toArray, List.map_cons, List.map_nil]; try rfl) ?_
  with_reducible refine (TextR (H.row _ m3) (H.row _ m4) (limR bo.out (by decide)) (limR bo2.out (by decide)) ⟨#[48]⟩ ht0.out).mono ?_
  rintro e w27 ⟨rfl, hb⟩
  replace H := H.call hb
  clear hb
  refine ⟨_, rfl, ?_⟩
  refine hK.out _ _ ⟨H.cell m1 0, H.cell m1 1, H.cell m1 2, H.cell m1 3, H.cell m0 0, H.cell m0 1, H.cell m0 2, H.cell m0 3⟩ (fun hQ => ?_)
  clear hK K
  refine norm_ (a' := ?_) ?_ ?_
  rotate_left
  · show Act.put _ (some 29) _ = _
    simp only [Act.put, List.setIfInBounds_toArray, List.set_cons_zero, List.set_cons_succ, i64_w, i32_w]
    rfl
  refine pure_ (i := 7) (N := some 30) (v := ?_) (a' := ?_) (bm 42 255) rfl rfl (any_of HT_.out (by kernel_rfl)) (fun _ _ _ h => h) (Or.inl ⟨by rfl, ?_⟩) ?_ ?_
  rotate_left
  · intro w'
    go_simp
    with_reducible rfl
  rotate_left
  · simp only [Act.put, List.setIfInBounds_toArray, List.set_cons_zero, List.set_cons_succ, i64_w, i32_w]
    rfl
  refine pure_ (i := 8) (N := some 31) (v := ?_) (a' := ?_) (bm 42 511) rfl rfl (any_of HT_.out (by kernel_rfl)) (fun _ _ _ h => h) (Or.inl ⟨by rfl, ?_⟩) ?_ ?_
  rotate_left
  · intro w'
    go_simp
    with_reducible rfl
  rotate_left
  · simp only [Act.put, List.setIfInBounds_toArray, List.set_cons_zero, List.set_cons_succ, i64_w, i32_w]
    rfl
  refine pure_ (i := 9) (N := some 32) (v := ?_) (a' := ?_) (bm 42 1023) rfl rfl (any_of HT_.out (by kernel_rfl)) (fun _ _ _ h => h) (Or.inl ⟨by rfl, ?_⟩) ?_ ?_
  rotate_left
  · intro w'
    go_simp
    with_reducible rfl
  rotate_left
  · simp only [Act.put, List.setIfInBounds_toArray, List.set_cons_zero, List.set_cons_succ, i64_w, i32_w]
    rfl
  refine take_ (i := 10) (N := some 33) (v := ?_) (a' := ?_) (bm 42 2047) rfl rfl (take_ofW HT_.out HW_.out (by kernel_rfl)) (fun _ _ _ h => h) (Or.inl ⟨by rfl, ?_⟩) hQ ?_ ?_
  rotate_left
  · rintro w' ⟨s0, s1, s2, s3, s4, s5, s6, s7⟩
    go_simp
    with_reducible rfl
  rotate_left
  · simp only [Act.put, List.setIfInBounds_toArray, List.set_cons_zero, List.set_cons_succ, i64_w, i32_w]
    rfl
  refine one_ (i := 11) (N := some 34) (bm 42 4095) rfl rfl (one_of HT_.out (by kernel_rfl)) (by decide) (fun K hK => ?_)
  refine goes_ Try.func47 (by kernel_rfl) rfl #[.agg #[.bool (ng o), .slice none (ln o) 0, .bool (ng o2), .slice none (ln o2) 0]] (by rfl) rfl rfl (by simp only [List.map_toArray, List.map_cons, List.map_nil]; try rfl) ?_
  with_reducible refine (DenQ (H.row _ m3) (H.row _ m4) (limR bo.out (by decide)) (limR bo2.out (by decide)) d1 hd1.out).mono ?_
  rintro e w28 ⟨A29, c30, rfl, hr, hb⟩
  replace H := H.got hr hb
  clear hr hb
  refine ⟨_, rfl, ?_⟩
  refine hK.out _ _ ⟨H.cell m1 0, H.cell m1 1, H.cell m1 2, H.cell m1 3, H.cell m0 0, H.cell m0 1, H.cell m0 2, H.cell m0 3⟩ (fun hQ => ?_)
  clear hK K
  refine norm_ (a' := ?_) ?_ ?_
  rotate_left
  · show Act.put _ (some 34) _ = _
    simp only [Act.put, List.setIfInBounds_toArray, List.set_cons_zero, List.set_cons_succ, i64_w, i32_w]
    rfl
  refine one_ (i := 12) (N := some 35) (bm 42 8191) rfl rfl (one_of HT_.out (by kernel_rfl)) (by decide) (fun K hK => ?_)
  refine goes_ Try.func26 (by kernel_rfl) rfl #[.agg #[.bool (ng d1), .slice A29 (ln d1) c30]] (by rfl) rfl rfl (by simp only [List.map_toArray, List.map_cons, List.map_nil]; try rfl) ?_
  with_reducible refine (TextQ (H.row _ m0) (lim bd1.out (by decide)) ⟨#[49]⟩ ht1.out).mono ?_
  rintro e w31 ⟨rfl, hb⟩
  replace H := H.call hb
  clear hb
  refine ⟨_, rfl, ?_⟩
  refine hK.out _ _ ⟨H.cell m1 0, H.cell m1 1, H.cell m1 2, H.cell m1 3, H.cell m0 0, H.cell m0 1, H.cell m0 2, H.cell m0 3⟩ (fun hQ => ?_)
  clear hK K
  refine norm_ (a' := ?_) ?_ ?_
  rotate_left
  · show Act.put _ (some 35) _ = _
    simp only [Act.put, List.setIfInBounds_toArray, List.set_cons_zero, List.set_cons_succ, i64_w, i32_w]
    rfl
  refine pure_ (i := 13) (N := some 36) (v := ?_) (a' := ?_) (bm 42 16383) rfl rfl (any_of HT_.out (by kernel_rfl)) (fun _ _ _ h => h) (Or.inl ⟨by rfl, ?_⟩) ?_ ?_
  rotate_left
  · intro w'
    go_simp
    with_reducible rfl
  rotate_left
  · simp only [Act.put, List.setIfInBounds_toArray, List.set_cons_zero, List.set_cons_succ, i64_w, i32_w]
    rfl
  refine pure_ (i := 14) (N := some 37) (v := ?_) (a' := ?_) (bm 42 32767) rfl rfl (any_of HT_.out (by kernel_rfl)) (fun _ _ _ h => h) (Or.inl ⟨by rfl, ?_⟩) ?_ ?_
  rotate_left
  · intro w'
    go_simp
    with_reducible rfl
  rotate_left
  · simp only [Act.put, List.setIfInBounds_toArray, List.set_cons_zero, List.set_cons_succ, i64_w, i32_w]
    rfl
  refine pure_ (i := 15) (N := some 38) (v := ?_) (a' := ?_) (bm 42 65535) rfl rfl (any_of HT_.out (by kernel_rfl)) (fun _ _ _ h => h) (Or.inl ⟨by rfl, ?_⟩) ?_ ?_
  rotate_left
  · intro w'
    go_simp
    with_reducible rfl
  rotate_left
  · simp only [Act.put, List.setIfInBounds_toArray, List.set_cons_zero, List.set_cons_succ, i64_w, i32_w]
    rfl
  refine take_ (i := 16) (N := some 39) (v := ?_) (a' := ?_) (bm 42 131071) rfl rfl (take_ofW HT_.out HW_.out (by kernel_rfl)) (fun _ _ _ h => h) (Or.inl ⟨by rfl, ?_⟩) hQ ?_ ?_
  rotate_left
  · rintro w' ⟨s0, s1, s2, s3, s4, s5, s6, s7⟩
    go_simp
    with_reducible rfl
  rotate_left
  · simp only [Act.put, List.setIfInBounds_toArray, List.set_cons_zero, List.set_cons_succ, i64_w, i32_w]
    rfl
  refine one_ (i := 17) (N := some 40) (bm 42 262143) rfl rfl (one_of HT_.out (by kernel_rfl)) (by decide) (fun K hK => ?_)
  refine goes_ Try.func43 (by kernel_rfl) rfl #[.agg #[.bool (ng o), .slice none (ln o) 0, .bool (ng o2), .slice none (ln o2) 0]] (by rfl) rfl rfl (by simp only [List.map_toArray, List.map_cons, List.map_nil]; try rfl) ?_
  with_reducible refine (FloorR (H.row _ m4) (H.row _ m5) (limR bo.out (by decide)) (limR bo2.out (by decide)) f1 hf1.out).mono ?_
  rintro e w32 ⟨A33, c34, rfl, hr, hb⟩
  replace H := H.got hr hb
  clear hr hb
  refine ⟨_, rfl, ?_⟩
  refine hK.out _ _ ⟨H.cell m1 0, H.cell m1 1, H.cell m1 2, H.cell m1 3, H.cell m0 0, H.cell m0 1, H.cell m0 2, H.cell m0 3⟩ (fun hQ => ?_)
  clear hK K
  refine norm_ (a' := ?_) ?_ ?_
  rotate_left
  · show Act.put _ (some 40) _ = _
    simp only [Act.put, List.setIfInBounds_toArray, List.set_cons_zero, List.set_cons_succ, i64_w, i32_w]
    rfl
  refine one_ (i := 18) (N := some 41) (bm 42 524287) rfl rfl (one_of HT_.out (by kernel_rfl)) (by decide) (fun K hK => ?_)
  refine goes_ Try.func25 (by kernel_rfl) rfl #[.agg #[.bool (ng f1), .slice A33 (ln f1) c34]] (by rfl) rfl rfl (by simp only [List.map_toArray, List.map_cons, List.map_nil]; try rfl) ?_
  with_reducible refine (SignQ _ _ _ (lim bf1.out (by decide)) 0 hs1.out).mono ?_
  rintro e w35 ⟨rfl, hb⟩
  replace H := H.call hb
  clear hb
  refine ⟨_, rfl, ?_⟩
  refine hK.out _ _ ⟨H.cell m1 0, H.cell m1 1, H.cell m1 2, H.cell m1 3, H.cell m0 0, H.cell m0 1, H.cell m0 2, H.cell m0 3⟩ (fun hQ => ?_)
  clear hK K
  refine norm_ (a' := ?_) ?_ ?_
  rotate_left
  · show Act.put _ (some 41) _ = _
    simp only [Act.put, List.setIfInBounds_toArray, List.set_cons_zero, List.set_cons_succ, i64_w, i32_w]
    rfl
  refine pure_ (i := 19) (N := some 42) (v := ?_) (a' := ?_) (bm 42 1048575) rfl rfl (any_of HT_.out (by kernel_rfl)) (fun _ _ _ h => h) (Or.inl ⟨by rfl, ?_⟩) ?_ ?_
  rotate_left
  · intro w'
    go_simp
    with_reducible rfl
  rotate_left
  · simp only [Act.put, List.setIfInBounds_toArray, List.set_cons_zero, List.set_cons_succ, i64_w, i32_w]
    rfl
  refine pure_ (i := 20) (N := some 43) (v := ?_) (a' := ?_) (bm 42 2097151) rfl rfl (any_of HT_.out (by kernel_rfl)) (fun _ _ _ h => h) (Or.inl ⟨by rfl, ?_⟩) ?_ ?_
  rotate_left
  · intro w'
    go_simp
    with_reducible rfl
  rotate_left
  · simp only [Act.put, List.setIfInBounds_toArray, List.set_cons_zero, List.set_cons_succ, i64_w, i32_w]
    rfl
  refine pure_ (i := 21) (N := some 44) (v := ?_) (a' := ?_) (bm 42 4194303) rfl rfl (any_of HT_.out (by kernel_rfl)) (fun _ _ _ h => h) (Or.inl ⟨by rfl, ?_⟩) ?_ ?_
  rotate_left
  · intro w'
    go_simp
    with_reducible rfl
  rotate_left
  · simp only [Act.put, List.setIfInBounds_toArray, List.set_cons_zero, List.set_cons_succ, i64_w, i32_w]
    rfl
  refine take_ (i := 22) (N := some 45) (v := ?_) (a' := ?_) (bm 42 8388607) rfl rfl (take_ofW HT_.out HW_.out (by kernel_rfl)) (fun _ _ _ h => h) (Or.inl ⟨by rfl, ?_⟩) hQ ?_ ?_
  rotate_left
  · rintro w' ⟨s0, s1, s2, s3, s4, s5, s6, s7⟩
    go_simp
    with_reducible rfl
  rotate_left
  · simp only [Act.put, List.setIfInBounds_toArray, List.set_cons_zero, List.set_cons_succ, i64_w, i32_w]
    rfl
  refine one_ (i := 23) (N := some 46) (bm 42 16777215) rfl rfl (one_of HT_.out (by kernel_rfl)) (by decide) (fun K hK => ?_)
  refine goes_ Try.func48 (by kernel_rfl) rfl #[.agg #[.bool (ng o), .slice none (ln o) 0, .bool (ng o2), .slice none (ln o2) 0]] (by rfl) rfl rfl (by simp only [List.map_toArray, List.map_cons, List.map_nil]; try rfl) ?_
  with_reducible refine (CeilR (H.row _ m5) (H.row _ m6) (limR bo.out (by decide)) (limR bo2.out (by decide)) c1 hc1.out).mono ?_
  rintro e w36 ⟨A37, c38, rfl, hr, hb⟩
  replace H := H.got hr hb
  clear hr hb
  refine ⟨_, rfl, ?_⟩
  refine hK.out _ _ ⟨H.cell m1 0, H.cell m1 1, H.cell m1 2, H.cell m1 3, H.cell m0 0, H.cell m0 1, H.cell m0 2, H.cell m0 3⟩ (fun hQ => ?_)
  clear hK K
  refine norm_ (a' := ?_) ?_ ?_
  rotate_left
  · show Act.put _ (some 46) _ = _
    simp only [Act.put, List.setIfInBounds_toArray, List.set_cons_zero, List.set_cons_succ, i64_w, i32_w]
    rfl
  refine one_ (i := 24) (N := some 47) (bm 42 33554431) rfl rfl (one_of HT_.out (by kernel_rfl)) (by decide) (fun K hK => ?_)
  refine goes_ Try.func25 (by kernel_rfl) rfl #[.agg #[.bool (ng c1), .slice A37 (ln c1) c38]] (by rfl) rfl rfl (by simp only [List.map_toArray, List.map_cons, List.map_nil]; try rfl) ?_
  with_reducible refine (SignQ _ _ _ (lim bc1.out (by decide)) 0 hs2.out).mono ?_
  rintro e w39 ⟨rfl, hb⟩
  replace H := H.call hb
  clear hb
  refine ⟨_, rfl, ?_⟩
  refine hK.out _ _ ⟨H.cell m1 0, H.cell m1 1, H.cell m1 2, H.cell m1 3, H.cell m0 0, H.cell m0 1, H.cell m0 2, H.cell m0 3⟩ (fun hQ => ?_)
  clear hK K
  refine norm_ (a' := ?_) ?_ ?_
  rotate_left
  · show Act.put _ (some 47) _ = _
    simp only [Act.put, List.setIfInBounds_toArray, List.set_cons_zero, List.set_cons_succ, i64_w, i32_w]
    rfl
  refine pure_ (i := 25) (N := some 48) (v := ?_) (a' := ?_) (bm 42 67108863) rfl rfl (any_of HT_.out (by kernel_rfl)) (fun _ _ _ h => h) (Or.inl ⟨by rfl, ?_⟩) ?_ ?_
  rotate_left
  · intro w'
    go_simp
    with_reducible rfl
  rotate_left
  · simp only [Act.put, List.setIfInBounds_toArray, List.set_cons_zero, List.set_cons_succ, i64_w, i32_w]
    rfl
  refine pure_ (i := 26) (N := some 49) (v := ?_) (a' := ?_) (bm 42 134217727) rfl rfl (any_of HT_.out (by kernel_rfl)) (fun _ _ _ h => h) (Or.inl ⟨by rfl, ?_⟩) ?_ ?_
  rotate_left
  · intro w'
    go_simp
    with_reducible rfl
  rotate_left
  · simp only [Act.put, List.setIfInBounds_toArray, List.set_cons_zero, List.set_cons_succ, i64_w, i32_w]
    rfl
  refine pure_ (i := 27) (N := some 50) (v := ?_) (a' := ?_) (bm 42 268435455) rfl rfl (any_of HT_.out (by kernel_rfl)) (fun _ _ _ h => h) (Or.inl ⟨by rfl, ?_⟩) ?_ ?_
  rotate_left
  · intro w'
    go_simp
    with_reducible rfl
  rotate_left
  · simp only [Act.put, List.setIfInBounds_toArray, List.set_cons_zero, List.set_cons_succ, i64_w, i32_w]
    rfl
  refine pure_ (i := 28) (N := some 51) (v := ?_) (a' := ?_) (bm 42 536870911) rfl rfl (any_of HT_.out (by kernel_rfl)) (fun _ _ _ h => h) (Or.inl ⟨by rfl, ?_⟩) ?_ ?_
  rotate_left
  · intro w'
    go_simp
    with_reducible rfl
  rotate_left
  · simp only [Act.put, List.setIfInBounds_toArray, List.set_cons_zero, List.set_cons_succ, i64_w, i32_w]
    rfl
  refine pure_ (i := 29) (N := some 52) (v := ?_) (a' := ?_) (bm 42 1073741823) rfl rfl (any_of HT_.out (by kernel_rfl)) (fun _ _ _ h => h) (Or.inl ⟨by rfl, ?_⟩) ?_ ?_
  rotate_left
  · intro w'
    go_simp
    with_reducible rfl
  rotate_left
  · simp only [Act.put, List.setIfInBounds_toArray, List.set_cons_zero, List.set_cons_succ, i64_w, i32_w]
    rfl
  refine pure_ (i := 30) (N := some 53) (v := ?_) (a' := ?_) (bm 42 2147483647) rfl rfl (any_of HT_.out (by kernel_rfl)) (fun _ _ _ h => h) (Or.inl ⟨by rfl, ?_⟩) ?_ ?_
  rotate_left
  · intro w'
    go_simp
    with_reducible rfl
  rotate_left
  · simp only [Act.put, List.setIfInBounds_toArray, List.set_cons_zero, List.set_cons_succ, i64_w, i32_w]
    rfl
  refine pure_ (i := 31) (N := some 54) (v := ?_) (a' := ?_) (bm 42 4294967295) rfl rfl (any_of HT_.out (by kernel_rfl)) (fun _ _ _ h => h) (Or.inl ⟨by rfl, ?_⟩) ?_ ?_
  rotate_left
  · intro w'
    go_simp
    with_reducible rfl
  rotate_left
  · simp only [Act.put, List.setIfInBounds_toArray, List.set_cons_zero, List.set_cons_succ, i64_w, i32_w]
    rfl
  refine pure_ (i := 32) (N := some 55) (v := ?_) (a' := ?_) (bm 42 8589934591) rfl rfl (any_of HT_.out (by kernel_rfl)) (fun _ _ _ h => h) (Or.inl ⟨by rfl, ?_⟩) ?_ ?_
  rotate_left
  · intro w'
    go_simp
    with_reducible rfl
  rotate_left
  · simp only [Act.put, List.setIfInBounds_toArray, List.set_cons_zero, List.set_cons_succ, i64_w, i32_w]
    rfl
  refine pure_ (i := 33) (N := some 56) (v := ?_) (a' := ?_) (bm 42 17179869183) rfl rfl (any_of HT_.out (by kernel_rfl)) (fun _ _ _ h => h) (Or.inl ⟨by rfl, ?_⟩) ?_ ?_
  rotate_left
  · intro w'
    go_simp
    with_reducible rfl
  rotate_left
  · simp only [Act.put, List.setIfInBounds_toArray, List.set_cons_zero, List.set_cons_succ, i64_w, i32_w]
    rfl
  refine pure_ (i := 34) (N := some 57) (v := ?_) (a' := ?_) (bm 42 34359738367) rfl rfl (any_of HT_.out (by kernel_rfl)) (fun _ _ _ h => h) (Or.inl ⟨by rfl, ?_⟩) ?_ ?_
  rotate_left
  · intro w'
    go_simp
    with_reducible rfl
  rotate_left
  · simp only [Act.put, List.setIfInBounds_toArray, List.set_cons_zero, List.set_cons_succ, i64_w, i32_w]
    rfl
  refine pure_ (i := 35) (N := some 58) (v := ?_) (a' := ?_) (bm 42 68719476735) rfl rfl (any_of HT_.out (by kernel_rfl)) (fun _ _ _ h => h) (Or.inl ⟨by rfl, ?_⟩) ?_ ?_
  rotate_left
  · intro w'
    go_simp
    with_reducible rfl
  rotate_left
  · simp only [Act.put, List.setIfInBounds_toArray, List.set_cons_zero, List.set_cons_succ, i64_w, i32_w]
    rfl
  refine pure_ (i := 36) (N := some 59) (v := ?_) (a' := ?_) (bm 42 137438953471) rfl rfl (any_of HT_.out (by kernel_rfl)) (fun _ _ _ h => h) (Or.inl ⟨by rfl, ?_⟩) ?_ ?_
  rotate_left
  · intro w'
    go_simp
    with_reducible rfl
  rotate_left
  · simp only [Act.put, List.setIfInBounds_toArray, List.set_cons_zero, List.set_cons_succ, i64_w, i32_w]
    rfl
  refine take_ (i := 37) (N := some 60) (v := ?_) (a' := ?_) (bm 42 274877906943) rfl rfl (take_ofW HT_.out HW_.out (by kernel_rfl)) (fun _ _ _ h => h) (Or.inl ⟨by rfl, ?_⟩) hQ ?_ ?_
  rotate_left
  · rintro w' ⟨s0, s1, s2, s3, s4, s5, s6, s7⟩
    go_simp
    with_reducible rfl
  rotate_left
  · simp only [Act.put, List.setIfInBounds_toArray, List.set_cons_zero, List.set_cons_succ, i64_w, i32_w]
    rfl
  refine one_ (i := 38) (N := some 61) (bm 42 549755813887) rfl rfl (one_of HT_.out (by kernel_rfl)) (by decide) (fun K hK => ?_)
  refine goes_ Try.func47 (by kernel_rfl) rfl #[.agg #[.bool (ng n1), .slice A6 (ln n1) c7, .bool (ng z1), .slice A8 (ln z1) c9]] (by rfl) rfl rfl (by simp only [List.map_toArray, List.map_cons, List.map_nil]; try rfl) ?_
  with_reducible refine (DenQ (H.row _ m9) (H.row _ m8) (limR bn1.out (by decide)) (limR bz1.out (by decide)) d2 hd2.out).mono ?_
  rintro e w40 ⟨A41, c42, rfl, hr, hb⟩
  replace H := H.got hr hb
  clear hr hb
  refine ⟨_, rfl, ?_⟩
  refine hK.out _ _ ⟨H.cell m1 0, H.cell m1 1, H.cell m1 2, H.cell m1 3, H.cell m0 0, H.cell m0 1, H.cell m0 2, H.cell m0 3⟩ (fun hQ => ?_)
  clear hK K
  refine norm_ (a' := ?_) ?_ ?_
  rotate_left
  · show Act.put _ (some 61) _ = _
    simp only [Act.put, List.setIfInBounds_toArray, List.set_cons_zero, List.set_cons_succ, i64_w, i32_w]
    rfl
  refine one_ (i := 39) (N := some 62) (bm 42 1099511627775) rfl rfl (one_of HT_.out (by kernel_rfl)) (by decide) (fun K hK => ?_)
  refine goes_ Try.func26 (by kernel_rfl) rfl #[.agg #[.bool (ng d2), .slice A41 (ln d2) c42]] (by rfl) rfl rfl (by simp only [List.map_toArray, List.map_cons, List.map_nil]; try rfl) ?_
  with_reducible refine (TextQ (H.row _ m0) (lim bd2.out (by decide)) ⟨#[49]⟩ ht2.out).mono ?_
  rintro e w43 ⟨rfl, hb⟩
  replace H := H.call hb
  clear hb
  refine ⟨_, rfl, ?_⟩
  refine hK.out _ _ ⟨H.cell m1 0, H.cell m1 1, H.cell m1 2, H.cell m1 3, H.cell m0 0, H.cell m0 1, H.cell m0 2, H.cell m0 3⟩ (fun hQ => ?_)
  clear hK K
  refine norm_ (a' := ?_) ?_ ?_
  rotate_left
  · show Act.put _ (some 62) _ = _
    simp only [Act.put, List.setIfInBounds_toArray, List.set_cons_zero, List.set_cons_succ, i64_w, i32_w]
    rfl
  refine pure_ (i := 40) (N := some 63) (v := ?_) (a' := ?_) (bm 42 2199023255551) rfl rfl (any_of HT_.out (by kernel_rfl)) (fun _ _ _ h => h) (Or.inl ⟨by rfl, ?_⟩) ?_ ?_
  rotate_left
  · intro w'
    go_simp
    with_reducible rfl
  rotate_left
  · simp only [Act.put, List.setIfInBounds_toArray, List.set_cons_zero, List.set_cons_succ, i64_w, i32_w]
    rfl
  refine pure_ (i := 41) (N := some 64) (v := ?_) (a' := ?_) (bm 42 4398046511103) rfl rfl (any_of HT_.out (by kernel_rfl)) (fun _ _ _ h => h) (Or.inl ⟨by rfl, ?_⟩) ?_ ?_
  rotate_left
  · intro w'
    go_simp
    with_reducible rfl
  rotate_left
  · simp only [Act.put, List.setIfInBounds_toArray, List.set_cons_zero, List.set_cons_succ, i64_w, i32_w]
    rfl
  refine done_ (done_of HT_.out (by kernel_rfl)) ?_
  try clear hQ
  go_upto_region 8 with fail
  (try simp only [Act.put, List.setIfInBounds_toArray, List.set_cons_zero, List.set_cons_succ])
  obtain ⟨k6_0, z6_0, k6_1, z6_1, k6_2, z6_2, k6_3, z6_3⟩ := H.b4 (g := g6) m0
  obtain ⟨k5_0, z5_0, k5_1, z5_1, k5_2, z5_2, k5_3, z5_3⟩ := H.b4 (g := g5) m1
  have st49 := trivial
  have st51 := trivial
  go_upto_region 9 with (first
    | (clear st49; go_at_call 49; (with_reducible refine (ParseR a _ p q er hp.out).mono ?_); rintro e w44 ⟨A45, c46, A47, c48, rfl, hr, hr2, hb⟩; replace H := (H.got (fresh_row hr) hb).more ((H.got (fresh_row hr2) hb).row _ m0); clear hr hr2 hb; clear k6_0 z6_0 k6_1 z6_1 k6_2 z6_2 k6_3 z6_3 k5_0 z5_0 k5_1 z5_1 k5_2 z5_2 k5_3 z5_3; obtain ⟨k6_0, z6_0, k6_1, z6_1, k6_2, z6_2, k6_3, z6_3⟩ := H.b4 (g := g6) m0; obtain ⟨k5_0, z5_0, k5_1, z5_1, k5_2, z5_2, k5_3, z5_3⟩ := H.b4 (g := g5) m1)
    | (clear st51; (with_reducible refine gate_dst (N := 9) rfl ?_); refine box_event ?hg (N := 9) ?hd (cs := #[.bool false, .slice none 0 0, .bool false, .slice none 0 0]) (t := 51) ?hr ?_; (case hd => rfl); (case hg => rfl); (case hr => go_simp; try rfl); intro g9 hg w50 hbox hb; replace H := H.newbox hg hbox hb; clear hg hbox hb; clear k6_0 z6_0 k6_1 z6_1 k6_2 z6_2 k6_3 z6_3 k5_0 z5_0 k5_1 z5_1 k5_2 z5_2 k5_3 z5_3; obtain ⟨k9_0, z9_0, k9_1, z9_1, k9_2, z9_2, k9_3, z9_3⟩ := H.b4 (g := g9) m0; obtain ⟨k6_0, z6_0, k6_1, z6_1, k6_2, z6_2, k6_3, z6_3⟩ := H.b4 (g := g6) m1; obtain ⟨k5_0, z5_0, k5_1, z5_1, k5_2, z5_2, k5_3, z5_3⟩ := H.b4 (g := g5) m2; have ne_g9_g6 := H.ne (g := g9) (g' := g6) 0 1 rfl rfl (by decide); have ne_g6_g9 := ne_g9_g6.symm; have ne_g9_g5 := H.ne (g := g9) (g' := g5) 0 2 rfl rfl (by decide); have ne_g5_g9 := ne_g9_g5.symm))
  (try simp only [Act.put, List.setIfInBounds_toArray, List.set_cons_zero, List.set_cons_succ])
  replace H := H.set4 [] (.bool (ng p)) (.slice A45 (ln p) c46) (.bool (ng q)) (.slice A47 (ln q) c48)
  clear k9_0 z9_0 k9_1 z9_1 k9_2 z9_2 k9_3 z9_3 k6_0 z6_0 k6_1 z6_1 k6_2 z6_2 k6_3 z6_3 k5_0 z5_0 k5_1 z5_1 k5_2 z5_2 k5_3 z5_3
  generalize ((((w50.setCell ⟨g9, 0, none⟩ (.bool (ng p))).setCell ⟨g9, 1, none⟩ (.slice A45 (ln p) c46)).setCell ⟨g9, 2, none⟩ (.bool (ng q))).setCell ⟨g9, 3, none⟩ (.slice A47 (ln q) c48)) = w52 at H ⊢
  obtain ⟨k9_0, z9_0, k9_1, z9_1, k9_2, z9_2, k9_3, z9_3⟩ := H.b4 (g := g9) m0
  obtain ⟨k6_0, z6_0, k6_1, z6_1, k6_2, z6_2, k6_3, z6_3⟩ := H.b4 (g := g6) m1
  obtain ⟨k5_0, z5_0, k5_1, z5_1, k5_2, z5_2, k5_3, z5_3⟩ := H.b4 (g := g5) m2
  rcases hcs.out with e | ⟨e, t1⟩ | ⟨e, t1⟩
  · skip
    subst e
    have st54 := trivial
    go_wp2_with (first
      | (clear st54; go_at_call 50; (with_reducible refine (LongR a _ true hla.out).mono ?_); rintro e w53 ⟨rfl, hb⟩; replace H := H.call hb; clear hb; clear k9_0 z9_0 k9_1 z9_1 k9_2 z9_2 k9_3 z9_3 k6_0 z6_0 k6_1 z6_1 k6_2 z6_2 k6_3 z6_3 k5_0 z5_0 k5_1 z5_1 k5_2 z5_2 k5_3 z5_3; obtain ⟨k9_0, z9_0, k9_1, z9_1, k9_2, z9_2, k9_3, z9_3⟩ := H.b4 (g := g9) m0; obtain ⟨k6_0, z6_0, k6_1, z6_1, k6_2, z6_2, k6_3, z6_3⟩ := H.b4 (g := g6) m1; obtain ⟨k5_0, z5_0, k5_1, z5_1, k5_2, z5_2, k5_3, z5_3⟩ := H.b4 (g := g5) m2))
    go_ret
    exact ⟨rfl, H.below⟩
  · skip
    subst e
    have st56 := trivial
    go_wp2_with (first
      | (clear st56; go_at_call 50; (with_reducible refine (LongR a _ false hla.out).mono ?_); rintro e w55 ⟨rfl, hb⟩; replace H := H.call hb; clear hb; clear k9_0 z9_0 k9_1 z9_1 k9_2 z9_2 k9_3 z9_3 k6_0 z6_0 k6_1 z6_1 k6_2 z6_2 k6_3 z6_3 k5_0 z5_0 k5_1 z5_1 k5_2 z5_2 k5_3 z5_3; obtain ⟨k9_0, z9_0, k9_1, z9_1, k9_2, z9_2, k9_3, z9_3⟩ := H.b4 (g := g9) m0; obtain ⟨k6_0, z6_0, k6_1, z6_1, k6_2, z6_2, k6_3, z6_3⟩ := H.b4 (g := g6) m1; obtain ⟨k5_0, z5_0, k5_1, z5_1, k5_2, z5_2, k5_3, z5_3⟩ := H.b4 (g := g5) m2))
    go_ret
    exact ⟨rfl, H.below⟩
  · skip
    subst e
    replace eV7_x := Aside0.mk (eV7_x.out t1)
    replace eV9_V10 := Aside0.mk (eV9_V10.out t1)
    replace htx := Aside0.mk (htx.out t1)
    subst t1
    have st58 := trivial
    have st64 := trivial
    have st70 := trivial
    have st76 := trivial
    have st82 := trivial
    have st88 := trivial
    have st94 := trivial
    have st96 := trivial
    go_upto_region 17 with (first
      | (clear st58; go_at_call 50; (with_reducible refine (LongR a _ false hla.out).mono ?_); rintro e w57 ⟨rfl, hb⟩; replace H := H.call hb; clear hb; clear k9_0 z9_0 k9_1 z9_1 k9_2 z9_2 k9_3 z9_3 k6_0 z6_0 k6_1 z6_1 k6_2 z6_2 k6_3 z6_3 k5_0 z5_0 k5_1 z5_1 k5_2 z5_2 k5_3 z5_3; obtain ⟨k9_0, z9_0, k9_1, z9_1, k9_2, z9_2, k9_3, z9_3⟩ := H.b4 (g := g9) m0; obtain ⟨k6_0, z6_0, k6_1, z6_1, k6_2, z6_2, k6_3, z6_3⟩ := H.b4 (g := g6) m1; obtain ⟨k5_0, z5_0, k5_1, z5_1, k5_2, z5_2, k5_3, z5_3⟩ := H.b4 (g := g5) m2)
      | (clear st64; go_at_call 41; (with_reducible refine (AddR (H.row _ m1) (H.row _ m0) (H.row _ (mt (mt m10))) (H.row _ (mt m10)) (limR bp.out (by decide)) (limR bq.out (by decide)) (limR bn1.out (by decide)) (limR bz1.out (by decide)) x1 y1 hv1.out).mono ?_); rintro e w59 ⟨A60, c61, A62, c63, rfl, hr, hr2, hb⟩; replace H := (H.got hr hb).more ((H.got hr2 hb).row _ m0); clear hr hr2 hb; clear k9_0 z9_0 k9_1 z9_1 k9_2 z9_2 k9_3 z9_3 k6_0 z6_0 k6_1 z6_1 k6_2 z6_2 k6_3 z6_3 k5_0 z5_0 k5_1 z5_1 k5_2 z5_2 k5_3 z5_3; obtain ⟨k9_0, z9_0, k9_1, z9_1, k9_2, z9_2, k9_3, z9_3⟩ := H.b4 (g := g9) m0; obtain ⟨k6_0, z6_0, k6_1, z6_1, k6_2, z6_2, k6_3, z6_3⟩ := H.b4 (g := g6) m1; obtain ⟨k5_0, z5_0, k5_1, z5_1, k5_2, z5_2, k5_3, z5_3⟩ := H.b4 (g := g5) m2)
      | (clear st70; go_at_call 42; (with_reducible refine (MulR (H.row _ m3) (H.row _ m2) (H.row _ (mt (mt (mt (mt m10))))) (H.row _ (mt (mt (mt m10)))) (limR bp.out (by decide)) (limR bq.out (by decide)) (limR bn1.out (by decide)) (limR bz1.out (by decide)) x2 y2 hv2.out).mono ?_); rintro e w65 ⟨A66, c67, A68, c69, rfl, hr, hr2, hb⟩; replace H := (H.got hr hb).more ((H.got hr2 hb).row _ m0); clear hr hr2 hb; clear k9_0 z9_0 k9_1 z9_1 k9_2 z9_2 k9_3 z9_3 k6_0 z6_0 k6_1 z6_1 k6_2 z6_2 k6_3 z6_3 k5_0 z5_0 k5_1 z5_1 k5_2 z5_2 k5_3 z5_3; obtain ⟨k9_0, z9_0, k9_1, z9_1, k9_2, z9_2, k9_3, z9_3⟩ := H.b4 (g := g9) m0; obtain ⟨k6_0, z6_0, k6_1, z6_1, k6_2, z6_2, k6_3, z6_3⟩ := H.b4 (g := g6) m1; obtain ⟨k5_0, z5_0, k5_1, z5_1, k5_2, z5_2, k5_3, z5_3⟩ := H.b4 (g := g5) m2)
      | (clear st76; go_at_call 51; (with_reducible refine (NegR (H.row _ m5) (H.row _ m4) (limR bp.out (by decide)) (limR bq.out (by decide)) x3 y3 hv3.out).mono ?_); rintro e w71 ⟨A72, c73, A74, c75, rfl, hr, hr2, hb⟩; replace H := (H.got hr hb).more ((H.got hr2 hb).row _ m0); clear hr hr2 hb; clear k9_0 z9_0 k9_1 z9_1 k9_2 z9_2 k9_3 z9_3 k6_0 z6_0 k6_1 z6_1 k6_2 z6_2 k6_3 z6_3 k5_0 z5_0 k5_1 z5_1 k5_2 z5_2 k5_3 z5_3; obtain ⟨k9_0, z9_0, k9_1, z9_1, k9_2, z9_2, k9_3, z9_3⟩ := H.b4 (g := g9) m0; obtain ⟨k6_0, z6_0, k6_1, z6_1, k6_2, z6_2, k6_3, z6_3⟩ := H.b4 (g := g6) m1; obtain ⟨k5_0, z5_0, k5_1, z5_1, k5_2, z5_2, k5_3, z5_3⟩ := H.b4 (g := g5) m2)
      | (clear st82; go_at_call 52; (with_reducible refine (DivR (H.row _ m7) (H.row _ m6) (H.row _ (mt (mt (mt (mt (mt (mt (mt (mt m10))))))))) (H.row _ (mt (mt (mt (mt (mt (mt (mt m10)))))))) (limR bp.out (by decide)) (limR bq.out (by decide)) (limR bn1.out (by decide)) (limR bz1.out (by decide)) x4 y4 k4 hv4.out).mono ?_); rintro e w77 ⟨A78, c79, A80, c81, rfl, hr, hr2, hb⟩; replace H := (H.got hr hb).more ((H.got hr2 hb).row _ m0); clear hr hr2 hb; clear k9_0 z9_0 k9_1 z9_1 k9_2 z9_2 k9_3 z9_3 k6_0 z6_0 k6_1 z6_1 k6_2 z6_2 k6_3 z6_3 k5_0 z5_0 k5_1 z5_1 k5_2 z5_2 k5_3 z5_3; obtain ⟨k9_0, z9_0, k9_1, z9_1, k9_2, z9_2, k9_3, z9_3⟩ := H.b4 (g := g9) m0; obtain ⟨k6_0, z6_0, k6_1, z6_1, k6_2, z6_2, k6_3, z6_3⟩ := H.b4 (g := g6) m1; obtain ⟨k5_0, z5_0, k5_1, z5_1, k5_2, z5_2, k5_3, z5_3⟩ := H.b4 (g := g5) m2)
      | (clear st88; go_at_call 53; (with_reducible refine (SubR (H.row _ m9) (H.row _ m8) (H.row _ m9) (H.row _ m8) (limR bp.out (by decide)) (limR bq.out (by decide)) (limR bp.out (by decide)) (limR bq.out (by decide)) x5 y5 hv5.out).mono ?_); rintro e w83 ⟨A84, c85, A86, c87, rfl, hr, hr2, hb⟩; replace H := (H.got hr hb).more ((H.got hr2 hb).row _ m0); clear hr hr2 hb; clear k9_0 z9_0 k9_1 z9_1 k9_2 z9_2 k9_3 z9_3 k6_0 z6_0 k6_1 z6_1 k6_2 z6_2 k6_3 z6_3 k5_0 z5_0 k5_1 z5_1 k5_2 z5_2 k5_3 z5_3; obtain ⟨k9_0, z9_0, k9_1, z9_1, k9_2, z9_2, k9_3, z9_3⟩ := H.b4 (g := g9) m0; obtain ⟨k6_0, z6_0, k6_1, z6_1, k6_2, z6_2, k6_3, z6_3⟩ := H.b4 (g := g6) m1; obtain ⟨k5_0, z5_0, k5_1, z5_1, k5_2, z5_2, k5_3, z5_3⟩ := H.b4 (g := g5) m2)
      | (clear st94; go_at_call 52; (with_reducible refine (DivR (H.row _ (mt m10)) (H.row _ m10) (H.row _ (mt (mt (mt (mt (mt (mt (mt (mt (mt m10)))))))))) (H.row _ (mt (mt (mt (mt (mt (mt (mt (mt (mt (mt m10))))))))))) (limR bp.out (by decide)) (limR bq.out (by decide)) (limR bo.out (by decide)) (limR bo2.out (by decide)) x6 y6 9 hv6.out).mono ?_); rintro e w89 ⟨A90, c91, A92, c93, rfl, hr, hr2, hb⟩; replace H := (H.got hr hb).more ((H.got hr2 hb).row _ m0); clear hr hr2 hb; clear k9_0 z9_0 k9_1 z9_1 k9_2 z9_2 k9_3 z9_3 k6_0 z6_0 k6_1 z6_1 k6_2 z6_2 k6_3 z6_3 k5_0 z5_0 k5_1 z5_1 k5_2 z5_2 k5_3 z5_3; obtain ⟨k9_0, z9_0, k9_1, z9_1, k9_2, z9_2, k9_3, z9_3⟩ := H.b4 (g := g9) m0; obtain ⟨k6_0, z6_0, k6_1, z6_1, k6_2, z6_2, k6_3, z6_3⟩ := H.b4 (g := g6) m1; obtain ⟨k5_0, z5_0, k5_1, z5_1, k5_2, z5_2, k5_3, z5_3⟩ := H.b4 (g := g5) m2)
      | (clear st96; (with_reducible refine gate_dst (N := 11) rfl ?_); refine box_event ?hg (N := 11) ?hd (cs := #[.bool false, .slice none 0 0, .bool false, .slice none 0 0]) (t := 51) ?hr ?_; (case hd => rfl); (case hg => rfl); (case hr => go_simp; try rfl); intro g11 hg w95 hbox hb; replace H := H.newbox hg hbox hb; clear hg hbox hb; clear k9_0 z9_0 k9_1 z9_1 k9_2 z9_2 k9_3 z9_3 k6_0 z6_0 k6_1 z6_1 k6_2 z6_2 k6_3 z6_3 k5_0 z5_0 k5_1 z5_1 k5_2 z5_2 k5_3 z5_3; obtain ⟨k11_0, z11_0, k11_1, z11_1, k11_2, z11_2, k11_3, z11_3⟩ := H.b4 (g := g11) m0; obtain ⟨k9_0, z9_0, k9_1, z9_1, k9_2, z9_2, k9_3, z9_3⟩ := H.b4 (g := g9) m1; obtain ⟨k6_0, z6_0, k6_1, z6_1, k6_2, z6_2, k6_3, z6_3⟩ := H.b4 (g := g6) m2; obtain ⟨k5_0, z5_0, k5_1, z5_1, k5_2, z5_2, k5_3, z5_3⟩ := H.b4 (g := g5) m3; have ne_g11_g9 := H.ne (g := g11) (g' := g9) 0 1 rfl rfl (by decide); have ne_g9_g11 := ne_g11_g9.symm; have ne_g11_g6 := H.ne (g := g11) (g' := g6) 0 2 rfl rfl (by decide); have ne_g6_g11 := ne_g11_g6.symm; have ne_g11_g5 := H.ne (g := g11) (g' := g5) 0 3 rfl rfl (by decide); have ne_g5_g11 := ne_g11_g5.symm))
    (try simp only [Act.put, List.setIfInBounds_toArray, List.set_cons_zero, List.set_cons_succ])
    replace H := H.set4 [] (.bool (ng x6)) (.slice A90 (ln x6) c91) (.bool (ng y6)) (.slice A92 (ln y6) c93)
    clear k11_0 z11_0 k11_1 z11_1 k11_2 z11_2 k11_3 z11_3 k9_0 z9_0 k9_1 z9_1 k9_2 z9_2 k9_3 z9_3 k6_0 z6_0 k6_1 z6_1 k6_2 z6_2 k6_3 z6_3 k5_0 z5_0 k5_1 z5_1 k5_2 z5_2 k5_3 z5_3
    generalize ((((w95.setCell ⟨g11, 0, none⟩ (.bool (ng x6))).setCell ⟨g11, 1, none⟩ (.slice A90 (ln x6) c91)).setCell ⟨g11, 2, none⟩ (.bool (ng y6))).setCell ⟨g11, 3, none⟩ (.slice A92 (ln y6) c93)) = w97 at H ⊢
    obtain ⟨k11_0, z11_0, k11_1, z11_1, k11_2, z11_2, k11_3, z11_3⟩ := H.b4 (g := g11) m0
    obtain ⟨k9_0, z9_0, k9_1, z9_1, k9_2, z9_2, k9_3, z9_3⟩ := H.b4 (g := g9) m1
    obtain ⟨k6_0, z6_0, k6_1, z6_1, k6_2, z6_2, k6_3, z6_3⟩ := H.b4 (g := g6) m2
    obtain ⟨k5_0, z5_0, k5_1, z5_1, k5_2, z5_2, k5_3, z5_3⟩ := H.b4 (g := g5) m3
    clear k11_0 z11_0 k11_1 z11_1 k11_2 z11_2 k11_3 z11_3 k9_0 z9_0 k9_1 z9_1 k9_2 z9_2 k9_3 z9_3 k6_0 z6_0 k6_1 z6_1 k6_2 z6_2 k6_3 z6_3 k5_0 z5_0 k5_1 z5_1 k5_2 z5_2 k5_3 z5_3
    replace H := H.drew
    refine start_ (n := 31) (S := fun w' => w'.cell? ⟨g9, 0, none⟩ = some (.bool (ng p)) ∧ w'.cell? ⟨g9, 1, none⟩ = some (.slice A45 (ln p) c46) ∧ w'.cell? ⟨g9, 2, none⟩ = some (.bool (ng q)) ∧ w'.cell? ⟨g9, 3, none⟩ = some (.slice A47 (ln q) c48) ∧ w'.cell? ⟨g5, 0, none⟩ = some (.bool (ng o)) ∧ w'.cell? ⟨g5, 1, none⟩ = some (.slice none (ln o) 0) ∧ w'.cell? ⟨g5, 2, none⟩ = some (.bool (ng o2)) ∧ w'.cell? ⟨g5, 3, none⟩ = some (.slice none (ln o2) 0)) (ds := []) #[false, false, false, false, false, false, false, false, false, false, false, false, false, false, false, false, false, false, false, false, false, false, false, false, false, false, false, false, false, false, false] (by kernel_rfl) rfl rfl ⟨H.cell m1 0, H.cell m1 1, H.cell m1 2, H.cell m1 3, H.cell m3 0, H.cell m3 1, H.cell m3 2, H.cell m3 3⟩ (fun hQ => ?_)
    generalize w97.drew = w98 at H hQ ⊢
    refine with_tabW tb9.tab17 tb9.bits17 (fun HT_ HW_ => ?_)
    refine pure_ (i := 2) (N := some 98) (v := ?_) (a' := ?_) (bm 31 4) rfl rfl (any_of HT_.out (by kernel_rfl)) (fun _ _ _ h => h) (Or.inl ⟨by rfl, ?_⟩) ?_ ?_
    rotate_left
    · intro w'
      go_simp
      with_reducible rfl
    rotate_left
    · simp only [Act.put, List.setIfInBounds_toArray, List.set_cons_zero, List.set_cons_succ, i64_w, i32_w]
      rfl
    refine take_ (i := 0) (N := some 96) (v := ?_) (a' := ?_) (bm 31 5) rfl rfl (take_ofW HT_.out HW_.out (by kernel_rfl)) (fun _ _ _ h => h) (Or.inl ⟨by rfl, ?_⟩) hQ ?_ ?_
    rotate_left
    · rintro w' ⟨s0, s1, s2, s3, s4, s5, s6, s7⟩
      go_simp
      with_reducible rfl
    rotate_left
    · simp only [Act.put, List.setIfInBounds_toArray, List.set_cons_zero, List.set_cons_succ, i64_w, i32_w]
      rfl
    refine one_ (i := 1) (N := some 97) (bm 31 7) rfl rfl (one_of HT_.out (by kernel_rfl)) (by decide) (fun K hK => ?_)
    refine goes_ Try.func46 (by kernel_rfl) rfl #[.agg #[.bool (ng p), .slice A45 (ln p) c46, .bool (ng q), .slice A47 (ln q) c48]] (by rfl) rfl rfl (by simp only [List.map_toArray, List.map_cons, List.map_nil]; try rfl) ?_
    with_reducible refine (TextR (H.row _ (mt (mt (mt m10)))) (H.row _ (mt (mt m10))) (limR bp.out (by decide)) (limR bq.out (by decide)) a htx.out).mono ?_
    rintro e w99 ⟨rfl, hb⟩
    replace H := H.call hb
    clear hb
    refine ⟨_, rfl, ?_⟩
    refine hK.out _ _ ⟨H.cell m1 0, H.cell m1 1, H.cell m1 2, H.cell m1 3, H.cell m3 0, H.cell m3 1, H.cell m3 2, H.cell m3 3⟩ (fun hQ => ?_)
    clear hK K
    refine norm_ (a' := ?_) ?_ ?_
    rotate_left
    · show Act.put _ (some 97) _ = _
      simp only [Act.put, List.setIfInBounds_toArray, List.set_cons_zero, List.set_cons_succ, i64_w, i32_w]
      rfl
    refine pure_ (i := 3) (N := some 99) (v := ?_) (a' := ?_) (bm 31 15) rfl rfl (any_of HT_.out (by kernel_rfl)) (fun _ _ _ h => h) (Or.inl ⟨by rfl, ?_⟩) ?_ ?_
    rotate_left
    · intro w'
      go_simp
      with_reducible rfl
    rotate_left
    · simp only [Act.put, List.setIfInBounds_toArray, List.set_cons_zero, List.set_cons_succ, i64_w, i32_w]
      rfl
    refine pure_ (i := 4) (N := some 100) (v := ?_) (a' := ?_) (bm 31 31) rfl rfl (any_of HT_.out (by kernel_rfl)) (fun _ _ _ h => h) (Or.inl ⟨by rfl, ?_⟩) ?_ ?_
    rotate_left
    · intro w'
      go_simp
      with_reducible rfl
    rotate_left
    · simp only [Act.put, List.setIfInBounds_toArray, List.set_cons_zero, List.set_cons_succ, i64_w, i32_w]
      rfl
    refine take_ (i := 5) (N := some 101) (v := ?_) (a' := ?_) (bm 31 63) rfl rfl (take_ofW HT_.out HW_.out (by kernel_rfl)) (fun _ _ _ h => h) (Or.inl ⟨by rfl, ?_⟩) hQ ?_ ?_
    rotate_left
    · rintro w' ⟨s0, s1, s2, s3, s4, s5, s6, s7⟩
      go_simp
      with_reducible rfl
    rotate_left
    · simp only [Act.put, List.setIfInBounds_toArray, List.set_cons_zero, List.set_cons_succ, i64_w, i32_w]
      rfl
    refine take_ (i := 6) (N := some 102) (v := ?_) (a' := ?_) (bm 31 127) rfl rfl (take_ofW HT_.out HW_.out (by kernel_rfl)) (fun _ _ _ h => h) (Or.inl ⟨by rfl, ?_⟩) hQ ?_ ?_
    rotate_left
    · rintro w' ⟨s0, s1, s2, s3, s4, s5, s6, s7⟩
      go_simp
      with_reducible rfl
    rotate_left
    · simp only [Act.put, List.setIfInBounds_toArray, List.set_cons_zero, List.set_cons_succ, i64_w, i32_w]
      rfl
    refine take_ (i := 8) (N := some 104) (v := ?_) (a' := ?_) (bm 31 383) rfl rfl (take_ofW HT_.out HW_.out (by kernel_rfl)) (fun _ _ _ h => h) (Or.inl ⟨by rfl, ?_⟩) hQ ?_ ?_
    rotate_left
    · rintro w' ⟨s0, s1, s2, s3, s4, s5, s6, s7⟩
      go_simp
      with_reducible rfl
    rotate_left
    · simp only [Act.put, List.setIfInBounds_toArray, List.set_cons_zero, List.set_cons_succ, i64_w, i32_w]
      rfl
    refine one_ (i := 7) (N := some 103) (bm 31 511) rfl rfl (one_of HT_.out (by kernel_rfl)) (by decide) (fun K hK => ?_)
    refine goes_ Try.func41 (by kernel_rfl) rfl #[.agg #[.bool (ng p), .slice A45 (ln p) c46, .bool (ng q), .slice A47 (ln q) c48], .agg #[.bool (ng o), .slice none (ln o) 0, .bool (ng o2), .slice none (ln o2) 0]] (by rfl) rfl rfl (by simp only [List.map_toArray, List.map_cons, List.map_nil]; try rfl) ?_
    with_reducible refine (AddR (H.row _ (mt (mt (mt m10)))) (H.row _ (mt (mt m10))) (H.row _ (mt (mt (mt (mt (mt (mt (mt (mt (mt (mt (mt m10)))))))))))) (H.row _ (mt (mt (mt (mt (mt (mt (mt (mt (mt (mt (mt (mt m10))))))))))))) (limR bp.out (by decide)) (limR bq.out (by decide)) (limR bo.out (by decide)) (limR bo2.out (by decide)) x7 y7 hv7.out).mono ?_
    rintro e w100 ⟨A101, c102, A103, c104, rfl, hr, hr2, hb⟩
    replace H := (H.got hr hb).more ((H.got hr2 hb).row _ m0)
    clear hr hr2 hb
    refine ⟨_, rfl, ?_⟩
    refine hK.out _ _ ⟨H.cell m1 0, H.cell m1 1, H.cell m1 2, H.cell m1 3, H.cell m3 0, H.cell m3 1, H.cell m3 2, H.cell m3 3⟩ (fun hQ => ?_)
    clear hK K
    refine norm_ (a' := ?_) ?_ ?_
    rotate_left
    · show Act.put _ (some 103) _ = _
      simp only [Act.put, List.setIfInBounds_toArray, List.set_cons_zero, List.set_cons_succ, i64_w, i32_w]
      rfl
    refine one_ (i := 9) (N := some 105) (bm 31 1023) rfl rfl (one_of HT_.out (by kernel_rfl)) (by decide) (fun K hK => ?_)
    refine goes_ Try.func40 (by kernel_rfl) rfl #[.agg #[.bool (ng x7), .slice A101 (ln x7) c102, .bool (ng y7), .slice A103 (ln y7) c104], .agg #[.bool (ng p), .slice A45 (ln p) c46, .bool (ng q), .slice A47 (ln q) c48]] (by rfl) rfl rfl (by simp only [List.map_toArray, List.map_cons, List.map_nil]; try rfl) ?_
    with_reducible refine (Same_t (H.row _ m1) (H.row _ m0) (H.row _ (mt (mt (mt (mt (mt m10)))))) (H.row _ (mt (mt (mt (mt m10))))) (limR bx7.out (by decide)) (limR by7.out (by decide)) (limR bp.out (by decide)) (limR bq.out (by decide)) (same1 eV7_x.out) (same2 eV7_x.out)).mono ?_
    rintro e w105 ⟨rfl, hb⟩
    replace H := H.call hb
    clear hb
    refine ⟨_, rfl, ?_⟩
    refine hK.out _ _ ⟨H.cell m1 0, H.cell m1 1, H.cell m1 2, H.cell m1 3, H.cell m3 0, H.cell m3 1, H.cell m3 2, H.cell m3 3⟩ (fun hQ => ?_)
    clear hK K
    refine norm_ (a' := ?_) ?_ ?_
    rotate_left
    · show Act.put _ (some 105) _ = _
      simp only [Act.put, List.setIfInBounds_toArray, List.set_cons_zero, List.set_cons_succ, i64_w, i32_w]
      rfl
    refine pure_ (i := 10) (N := some 106) (v := ?_) (a' := ?_) (bm 31 2047) rfl rfl (any_of HT_.out (by kernel_rfl)) (fun _ _ _ h => h) (Or.inl ⟨by rfl, ?_⟩) ?_ ?_
    rotate_left
    · intro w'
      go_simp
      with_reducible rfl
    rotate_left
    · simp only [Act.put, List.setIfInBounds_toArray, List.set_cons_zero, List.set_cons_succ, i64_w, i32_w]
      rfl
    refine pure_ (i := 11) (N := some 107) (v := ?_) (a' := ?_) (bm 31 4095) rfl rfl (any_of HT_.out (by kernel_rfl)) (fun _ _ _ h => h) (Or.inl ⟨by rfl, ?_⟩) ?_ ?_
    rotate_left
    · intro w'
      go_simp
      with_reducible rfl
    rotate_left
    · simp only [Act.put, List.setIfInBounds_toArray, List.set_cons_zero, List.set_cons_succ, i64_w, i32_w]
      rfl
    refine take_ (i := 12) (N := some 108) (v := ?_) (a' := ?_) (bm 31 8191) rfl rfl (take_ofW HT_.out HW_.out (by kernel_rfl)) (fun _ _ _ h => h) (Or.inl ⟨by rfl, ?_⟩) hQ ?_ ?_
    rotate_left
    · rintro w' ⟨s0, s1, s2, s3, s4, s5, s6, s7⟩
      go_simp
      with_reducible rfl
    rotate_left
    · simp only [Act.put, List.setIfInBounds_toArray, List.set_cons_zero, List.set_cons_succ, i64_w, i32_w]
      rfl
    refine take_ (i := 13) (N := some 109) (v := ?_) (a' := ?_) (bm 31 16383) rfl rfl (take_ofW HT_.out HW_.out (by kernel_rfl)) (fun _ _ _ h => h) (Or.inl ⟨by rfl, ?_⟩) hQ ?_ ?_
    rotate_left
    · rintro w' ⟨s0, s1, s2, s3, s4, s5, s6, s7⟩
      go_simp
      with_reducible rfl
    rotate_left
    · simp only [Act.put, List.setIfInBounds_toArray, List.set_cons_zero, List.set_cons_succ, i64_w, i32_w]
      rfl
    refine one_ (i := 14) (N := some 110) (bm 31 32767) rfl rfl (one_of HT_.out (by kernel_rfl)) (by decide) (fun K hK => ?_)
    refine goes_ Try.func42 (by kernel_rfl) rfl #[.agg #[.bool (ng p), .slice A45 (ln p) c46, .bool (ng q), .slice A47 (ln q) c48], .agg #[.bool (ng o), .slice none (ln o) 0, .bool (ng o2), .slice none (ln o2) 0]] (by rfl) rfl rfl (by simp only [List.map_toArray, List.map_cons, List.map_nil]; try rfl) ?_
    with_reducible refine (MulR (H.row _ (mt (mt (mt (mt (mt m10)))))) (H.row _ (mt (mt (mt (mt m10))))) (H.row _ (mt (mt (mt (mt (mt (mt (mt (mt (mt (mt (mt (mt (mt m10)))))))))))))) (H.row _ (mt (mt (mt (mt (mt (mt (mt (mt (mt (mt (mt (mt (mt (mt m10))))))))))))))) (limR bp.out (by decide)) (limR bq.out (by decide)) (limR bo.out (by decide)) (limR bo2.out (by decide)) x8 y8 hv8.out).mono ?_
    rintro e w106 ⟨A107, c108, A109, c110, rfl, hr, hr2, hb⟩
    replace H := (H.got hr hb).more ((H.got hr2 hb).row _ m0)
    clear hr hr2 hb
    refine ⟨_, rfl, ?_⟩
    refine hK.out _ _ ⟨H.cell m1 0, H.cell m1 1, H.cell m1 2, H.cell m1 3, H.cell m3 0, H.cell m3 1, H.cell m3 2, H.cell m3 3⟩ (fun hQ => ?_)
    clear hK K
    refine norm_ (a' := ?_) ?_ ?_
    rotate_left
    · show Act.put _ (some 110) _ = _
      simp only [Act.put, List.setIfInBounds_toArray, List.set_cons_zero, List.set_cons_succ, i64_w, i32_w]
      rfl
    refine one_ (i := 15) (N := some 111) (bm 31 65535) rfl rfl (one_of HT_.out (by kernel_rfl)) (by decide) (fun K hK => ?_)
    refine goes_ Try.func54 (by kernel_rfl) rfl #[.agg #[.bool (ng x8), .slice A107 (ln x8) c108, .bool (ng y8), .slice A109 (ln y8) c110]] (by rfl) rfl rfl (by simp only [List.map_toArray, List.map_cons, List.map_nil]; try rfl) ?_
    with_reducible refine (SignR (lim bx8.out (by decide)) 0 hs8.out).mono ?_
    rintro e w111 ⟨rfl, hb⟩
    replace H := H.call hb
    clear hb
    refine ⟨_, rfl, ?_⟩
    refine hK.out _ _ ⟨H.cell m1 0, H.cell m1 1, H.cell m1 2, H.cell m1 3, H.cell m3 0, H.cell m3 1, H.cell m3 2, H.cell m3 3⟩ (fun hQ => ?_)
    clear hK K
    refine norm_ (a' := ?_) ?_ ?_
    rotate_left
    · show Act.put _ (some 111) _ = _
      simp only [Act.put, List.setIfInBounds_toArray, List.set_cons_zero, List.set_cons_succ, i64_w, i32_w]
      rfl
    refine pure_ (i := 16) (N := some 112) (v := ?_) (a' := ?_) (bm 31 131071) rfl rfl (any_of HT_.out (by kernel_rfl)) (fun _ _ _ h => h) (Or.inl ⟨by rfl, ?_⟩) ?_ ?_
    rotate_left
    · intro w'
      go_simp
      with_reducible rfl
    rotate_left
    · simp only [Act.put, List.setIfInBounds_toArray, List.set_cons_zero, List.set_cons_succ, i64_w, i32_w]
      rfl
    refine pure_ (i := 17) (N := some 113) (v := ?_) (a' := ?_) (bm 31 262143) rfl rfl (any_of HT_.out (by kernel_rfl)) (fun _ _ _ h => h) (Or.inl ⟨by rfl, ?_⟩) ?_ ?_
    rotate_left
    · intro w'
      go_simp
      with_reducible rfl
    rotate_left
    · simp only [Act.put, List.setIfInBounds_toArray, List.set_cons_zero, List.set_cons_succ, i64_w, i32_w]
      rfl
    refine pure_ (i := 18) (N := some 114) (v := ?_) (a' := ?_) (bm 31 524287) rfl rfl (any_of HT_.out (by kernel_rfl)) (fun _ _ _ h => h) (Or.inl ⟨by rfl, ?_⟩) ?_ ?_
    rotate_left
    · intro w'
      go_simp
      with_reducible rfl
    rotate_left
    · simp only [Act.put, List.setIfInBounds_toArray, List.set_cons_zero, List.set_cons_succ, i64_w, i32_w]
      rfl
    refine take_ (i := 19) (N := some 115) (v := ?_) (a' := ?_) (bm 31 1048575) rfl rfl (take_ofW HT_.out HW_.out (by kernel_rfl)) (fun _ _ _ h => h) (Or.inl ⟨by rfl, ?_⟩) hQ ?_ ?_
    rotate_left
    · rintro w' ⟨s0, s1, s2, s3, s4, s5, s6, s7⟩
      go_simp
      with_reducible rfl
    rotate_left
    · simp only [Act.put, List.setIfInBounds_toArray, List.set_cons_zero, List.set_cons_succ, i64_w, i32_w]
      rfl
    refine take_ (i := 20) (N := some 116) (v := ?_) (a' := ?_) (bm 31 2097151) rfl rfl (take_ofW HT_.out HW_.out (by kernel_rfl)) (fun _ _ _ h => h) (Or.inl ⟨by rfl, ?_⟩) hQ ?_ ?_
    rotate_left
    · rintro w' ⟨s0, s1, s2, s3, s4, s5, s6, s7⟩
      go_simp
      with_reducible rfl
    rotate_left
    · simp only [Act.put, List.setIfInBounds_toArray, List.set_cons_zero, List.set_cons_succ, i64_w, i32_w]
      rfl
    refine take_ (i := 22) (N := some 118) (v := ?_) (a' := ?_) (bm 31 6291455) rfl rfl (take_ofW HT_.out HW_.out (by kernel_rfl)) (fun _ _ _ h => h) (Or.inl ⟨by rfl, ?_⟩) hQ ?_ ?_
    rotate_left
    · rintro w' ⟨s0, s1, s2, s3, s4, s5, s6, s7⟩
      go_simp
      with_reducible rfl
    rotate_left
    · simp only [Act.put, List.setIfInBounds_toArray, List.set_cons_zero, List.set_cons_succ, i64_w, i32_w]
      rfl
    refine one_ (i := 21) (N := some 117) (bm 31 8388607) rfl rfl (one_of HT_.out (by kernel_rfl)) (by decide) (fun K hK => ?_)
    refine goes_ Try.func53 (by kernel_rfl) rfl #[.agg #[.bool (ng o), .slice none (ln o) 0, .bool (ng o2), .slice none (ln o2) 0], .agg #[.bool (ng p), .slice A45 (ln p) c46, .bool (ng q), .slice A47 (ln q) c48]] (by rfl) rfl rfl (by simp only [List.map_toArray, List.map_cons, List.map_nil]; try rfl) ?_
    with_reducible refine (SubR (H.row _ (mt (mt (mt (mt (mt (mt (mt (mt (mt (mt (mt (mt (mt (mt (mt m10)))))))))))))))) (H.row _ (mt (mt (mt (mt (mt (mt (mt (mt (mt (mt (mt (mt (mt (mt (mt (mt m10))))))))))))))))) (H.row _ (mt (mt (mt (mt (mt (mt (mt m10)))))))) (H.row _ (mt (mt (mt (mt (mt (mt m10))))))) (limR bo.out (by decide)) (limR bo2.out (by decide)) (limR bp.out (by decide)) (limR bq.out (by decide)) x9 y9 hv9.out).mono ?_
    rintro e w112 ⟨A113, c114, A115, c116, rfl, hr, hr2, hb⟩
    replace H := (H.got hr hb).more ((H.got hr2 hb).row _ m0)
    clear hr hr2 hb
    refine ⟨_, rfl, ?_⟩
    refine hK.out _ _ ⟨H.cell m1 0, H.cell m1 1, H.cell m1 2, H.cell m1 3, H.cell m3 0, H.cell m3 1, H.cell m3 2, H.cell m3 3⟩ (fun hQ => ?_)
    clear hK K
    refine norm_ (a' := ?_) ?_ ?_
    rotate_left
    · show Act.put _ (some 117) _ = _
      simp only [Act.put, List.setIfInBounds_toArray, List.set_cons_zero, List.set_cons_succ, i64_w, i32_w]
      rfl
    refine one_ (i := 23) (N := some 119) (bm 31 16777215) rfl rfl (one_of HT_.out (by kernel_rfl)) (by decide) (fun K hK => ?_)
    refine goes_ Try.func51 (by kernel_rfl) rfl #[.agg #[.bool (ng p), .slice A45 (ln p) c46, .bool (ng q), .slice A47 (ln q) c48]] (by rfl) rfl rfl (by simp only [List.map_toArray, List.map_cons, List.map_nil]; try rfl) ?_
    with_reducible refine (NegR (H.row _ (mt (mt (mt (mt (mt (mt (mt (mt (mt m10)))))))))) (H.row _ (mt (mt (mt (mt (mt (mt (mt (mt m10))))))))) (limR bp.out (by decide)) (limR bq.out (by decide)) x10 y10 hv10.out).mono ?_
    rintro e w117 ⟨A118, c119, A120, c121, rfl, hr, hr2, hb⟩
    replace H := (H.got hr hb).more ((H.got hr2 hb).row _ m0)
    clear hr hr2 hb
    refine ⟨_, rfl, ?_⟩
    refine hK.out _ _ ⟨H.cell m1 0, H.cell m1 1, H.cell m1 2, H.cell m1 3, H.cell m3 0, H.cell m3 1, H.cell m3 2, H.cell m3 3⟩ (fun hQ => ?_)
    clear hK K
    refine norm_ (a' := ?_) ?_ ?_
    rotate_left
    · show Act.put _ (some 119) _ = _
      simp only [Act.put, List.setIfInBounds_toArray, List.set_cons_zero, List.set_cons_succ, i64_w, i32_w]
      rfl
    refine one_ (i := 24) (N := some 120) (bm 31 33554431) rfl rfl (one_of HT_.out (by kernel_rfl)) (by decide) (fun K hK => ?_)
    refine goes_ Try.func40 (by kernel_rfl) rfl #[.agg #[.bool (ng x9), .slice A113 (ln x9) c114, .bool (ng y9), .slice A115 (ln y9) c116], .agg #[.bool (ng x10), .slice A118 (ln x10) c119, .bool (ng y10), .slice A120 (ln y10) c121]] (by rfl) rfl rfl (by simp only [List.map_toArray, List.map_cons, List.map_nil]; try rfl) ?_
    with_reducible refine (Same_t (H.row _ m3) (H.row _ m2) (H.row _ m1) (H.row _ m0) (limR bx9.out (by decide)) (limR by9.out (by decide)) (limR bx10.out (by decide)) (limR by10.out (by decide)) (same1 eV9_V10.out) (same2 eV9_V10.out)).mono ?_
    rintro e w122 ⟨rfl, hb⟩
    replace H := H.call hb
    clear hb
    refine ⟨_, rfl, ?_⟩
    refine hK.out _ _ ⟨H.cell m1 0, H.cell m1 1, H.cell m1 2, H.cell m1 3, H.cell m3 0, H.cell m3 1, H.cell m3 2, H.cell m3 3⟩ (fun hQ => ?_)
    clear hK K
    refine norm_ (a' := ?_) ?_ ?_
    rotate_left
    · show Act.put _ (some 120) _ = _
      simp only [Act.put, List.setIfInBounds_toArray, List.set_cons_zero, List.set_cons_succ, i64_w, i32_w]
      rfl
    refine pure_ (i := 25) (N := some 121) (v := ?_) (a' := ?_) (bm 31 67108863) rfl rfl (any_of HT_.out (by kernel_rfl)) (fun _ _ _ h => h) (Or.inl ⟨by rfl, ?_⟩) ?_ ?_
    rotate_left
    · intro w'
      go_simp
      with_reducible rfl
    rotate_left
    · simp only [Act.put, List.setIfInBounds_toArray, List.set_cons_zero, List.set_cons_succ, i64_w, i32_w]
      rfl
    refine pure_ (i := 26) (N := some 122) (v := ?_) (a' := ?_) (bm 31 134217727) rfl rfl (any_of HT_.out (by kernel_rfl)) (fun _ _ _ h => h) (Or.inl ⟨by rfl, ?_⟩) ?_ ?_
    rotate_left
    · intro w'
      go_simp
      with_reducible rfl
    rotate_left
    · simp only [Act.put, List.setIfInBounds_toArray, List.set_cons_zero, List.set_cons_succ, i64_w, i32_w]
      rfl
    refine pure_ (i := 27) (N := some 123) (v := ?_) (a' := ?_) (bm 31 268435455) rfl rfl (any_of HT_.out (by kernel_rfl)) (fun _ _ _ h => h) (Or.inl ⟨by rfl, ?_⟩) ?_ ?_
    rotate_left
    · intro w'
      go_simp
      with_reducible rfl
    rotate_left
    · simp only [Act.put, List.setIfInBounds_toArray, List.set_cons_zero, List.set_cons_succ, i64_w, i32_w]
      rfl
    refine pure_ (i := 28) (N := some 124) (v := ?_) (a' := ?_) (bm 31 536870911) rfl rfl (any_of HT_.out (by kernel_rfl)) (fun _ _ _ h => h) (Or.inl ⟨by rfl, ?_⟩) ?_ ?_
    rotate_left
    · intro w'
      go_simp
      with_reducible rfl
    rotate_left
    · simp only [Act.put, List.setIfInBounds_toArray, List.set_cons_zero, List.set_cons_succ, i64_w, i32_w]
      rfl
    refine pure_ (i := 29) (N := some 125) (v := ?_) (a' := ?_) (bm 31 1073741823) rfl rfl (any_of HT_.out (by kernel_rfl)) (fun _ _ _ h => h) (Or.inl ⟨by rfl, ?_⟩) ?_ ?_
    rotate_left
    · intro w'
      go_simp
      with_reducible rfl
    rotate_left
    · simp only [Act.put, List.setIfInBounds_toArray, List.set_cons_zero, List.set_cons_succ, i64_w, i32_w]
      rfl
    refine pure_ (i := 30) (N := some 4) (v := ?_) (a' := ?_) (bm 31 2147483647) rfl rfl (any_of HT_.out (by kernel_rfl)) (fun _ _ _ h => h) (Or.inl ⟨by rfl, ?_⟩) ?_ ?_
    rotate_left
    · intro w'
      go_simp
      with_reducible rfl
    rotate_left
    · simp only [Act.put, List.setIfInBounds_toArray, List.set_cons_zero, List.set_cons_succ, i64_w, i32_w]
      rfl
    refine done_ (done_of HT_.out (by kernel_rfl)) ?_
    try clear hQ
    go_wp2
    go_ret
    exact ⟨rfl, H.below⟩

theorem zer_walk (a : ByteArray) (n : Int) (w : World) (n0 : -9223372036854775808 ≤ n) (n1 : n ≤ 9223372036854775807) : Calls Try.prog 9 #[.string a, .int .i64 n] w (fun e W' => e = .returned (.bool true) ∧ Below w.heap.size w W') := by
  obtain ⟨⟨p, q, er⟩, hp⟩ : ∃ t, rp a = t := ⟨_, rfl⟩
  have bn : ln n ≤ 512 := Nat.le_trans (ln_bound n 2 (by omega)) (by decide)
  have bz : ln 0 ≤ 512 := Nat.zero_le _
  have bo : ln 1 ≤ 512 := Nat.le_trans (ln_bound 1 1 (by decide)) (by decide)
  have up : ∀ {x : Int}, ln x ≤ 512 → ln x ≤ 20000 := fun h => Nat.le_trans h (by decide)
  have f0 : flr 0 0 = 0 := by decide +kernel
  have tx1 : tx 1 = ⟨#[49]⟩ := by decide +kernel
  have L00 : Lo 0 1 0 1 := ⟨by decide, by decide, by decide, rfl⟩
  have lim : ln p ≤ 512 ∧ ln q ≤ 512 := rp_lim hp
  obtain ⟨bp, bq⟩ := lim
  refine zer_t a n w 0 0 n 0 n 0 0 1 0 0 1 p q er _ _ _ _ _ (-p) q _ _ _ _ _ _ _ _ _ _ _ _ (-p) q _ ⟨up bz⟩ ⟨up bz⟩ ⟨up bn⟩ ⟨up bz⟩ ⟨up bn⟩ ⟨up bz⟩ ⟨up bz⟩ ⟨up bo⟩ ⟨up bz⟩ ⟨up bz⟩ ⟨up bo⟩ ⟨up bp⟩ ⟨up bq⟩ ⟨Nat.le_trans (bA2 bp bq bn bz (by decide) ⟨rfl, rfl⟩).1 (by decide)⟩ ⟨Nat.le_trans (bA2 bp bq bn bz (by decide) ⟨rfl, rfl⟩).2 (by decide)⟩ ⟨Nat.le_trans (bM2 bp bq bn bz (by decide) ⟨rfl, rfl⟩).1 (by decide)⟩ ⟨Nat.le_trans (bM2 bp bq bn bz (by decide) ⟨rfl, rfl⟩).2 (by decide)⟩ ⟨up (by rw [ln_neg]; exact bp)⟩ ⟨up bq⟩ ⟨Nat.le_trans (bD2 bp bq bn bz (by decide) ⟨rfl, rfl⟩).1 (by decide)⟩ ⟨Nat.le_trans (bD2 bp bq bn bz (by decide) ⟨rfl, rfl⟩).2 (by decide)⟩ ⟨Nat.le_trans (bS2 bp bq bp bq (by decide) ⟨rfl, rfl⟩).1 (by decide)⟩ ⟨Nat.le_trans (bS2 bp bq bp bq (by decide) ⟨rfl, rfl⟩).2 (by decide)⟩ ⟨Nat.le_trans (bD2 bp bq bz bz (by decide) ⟨rfl, rfl⟩).1 (by decide)⟩ ⟨Nat.le_trans (bD2 bp bq bz bz (by decide) ⟨rfl, rfl⟩).2 (by decide)⟩ ⟨Nat.le_trans (bA2 bp bq bz bz (by decide) ⟨rfl, rfl⟩).1 (by decide)⟩ ⟨Nat.le_trans (bA2 bp bq bz bz (by decide) ⟨rfl, rfl⟩).2 (by decide)⟩ ⟨Nat.le_trans (bM2 bp bq bz bz (by decide) ⟨rfl, rfl⟩).1 (by decide)⟩ ⟨Nat.le_trans (bM2 bp bq bz bz (by decide) ⟨rfl, rfl⟩).2 (by decide)⟩ ⟨Nat.le_trans (bS2 bz bz bp bq (by decide) ⟨rfl, rfl⟩).1 (by decide)⟩ ⟨Nat.le_trans (bS2 bz bz bp bq (by decide) ⟨rfl, rfl⟩).2 (by decide)⟩ ⟨up (by rw [ln_neg]; exact bp)⟩ ⟨up bq⟩
    ⟨rfl⟩ ⟨?_⟩ ⟨rfl⟩ ⟨rfl⟩ ⟨rfl, rfl, n0, n1⟩ ⟨rfl⟩ ⟨by unfold intOfI; rw [if_pos ⟨n0, n1⟩]⟩ ⟨decide_eq_true ⟨n0, n1⟩⟩ ⟨rfl, rfl, by decide, by decide⟩
    ⟨by decide +kernel⟩ ⟨rfl⟩ ⟨tx1⟩ ⟨f0⟩ ⟨rfl⟩ ⟨by rw [show (-0 : Int) = 0 from rfl, f0]; rfl⟩ ⟨rfl⟩ ⟨rfl⟩ ⟨tx1⟩ ⟨hp⟩ (by simp) (by simp)
    ⟨rfl, rfl⟩ ⟨rfl, rfl⟩ ⟨rfl, rfl⟩ ⟨rfl, rfl⟩ ⟨rfl, rfl, rfl⟩ ⟨rfl, rfl⟩ ⟨rfl, rfl, by rw [Int.mul_zero]; rfl⟩ ⟨rfl, rfl⟩ ⟨fun h => ?_⟩ ⟨rfl, rfl⟩ ⟨rfl, rfl⟩ ⟨rfl, rfl⟩ ⟨fun h => ?_⟩ ⟨fun h => ?_⟩ ⟨?_⟩
  · by_cases h : 200 < (a.size : Int)
    · exact .inl (decide_eq_true h)
    · by_cases he : er = 0
      · exact .inr (.inr ⟨decide_eq_false h, he⟩)
      · exact .inr (.inl ⟨decide_eq_false h, by simpa using he⟩)
  · subst h
    obtain ⟨q0, gq, -, -⟩ := rpL hp
    exact Lo.uniq (Lo.add (Lo.self q0 gq) L00 ⟨rfl, rfl⟩) (Lo.self q0 gq) (by grind)
  · subst h
    obtain ⟨q0, gq, -, -⟩ := rpL hp
    exact Lo.uniq (Lo.sub L00 (Lo.self q0 gq) ⟨rfl, rfl⟩) (Lo.neg (Lo.self q0 gq) ⟨rfl, rfl⟩) (by grind)
  · subst h; exact rp_text hp
  · rw [Int.mul_zero]; exact (show sg (qn 0 (dd q * dd 0)) = 0 by rw [qn_0]; rfl)

end Go.Proofs.Ytdkapdgbfejgdaa
