/- The walk of the law RationalRounds. -/
import Derived.Test.YtdkapdgbfejgdaaRf
namespace Go.Proofs.Ytdkapdgbfejgdaa
open Go.RowKit Go.Proofs.YtdkapdgbfejgdaaW.PrintWords Go.Proofs.YtdkapdgbfejgdaaW.PrintLast Go.Proofs.YtdkapdgbfejgdaaW.PrintMore
set_option linter.unusedSimpArgs false
set_option linter.unusedVariables false
set_option maxHeartbeats 8000000
set_option maxRecDepth 100000

/-- What Parse accepts is a fraction in lowest terms with a positive denominator. -/
theorem rp_low {s : ByteArray} {n d : Int} (h : rp s = (n, d, 0)) : 0 < d ∧ Int.gcd n d = 1 ∧ ln n ≤ 512 ∧ ln d ≤ 512 := by
  unfold rp at h
  split at h
  · simp at h
  · obtain ⟨⟨a, e⟩, ha⟩ : ∃ v, pr (cutL s) = v := ⟨_, rfl⟩
    obtain ⟨⟨b, f⟩, hb⟩ : ∃ v, pr (if cutF s = true then cutR s else ⟨#[49]⟩) = v := ⟨_, rfl⟩
    simp only [ha, hb] at h
    split at h
    · simp at h
    · next hn =>
      have hb0 : 0 < b := by omega
      split at h
      · obtain ⟨h1, h2, -⟩ : qn a b = n ∧ qd a b = d ∧ True := by simpa using h
        have bn := bQn (d := b) (pr_lim ha) h1
        have bd := bQd (n := a) (pr_lim hb) h2
        unfold qn at h1
        unfold qd at h2
        rw [if_neg (by omega), if_neg (by omega)] at h1 h2
        have hg : 0 < Nat.gcd a.natAbs b.natAbs := Nat.gcd_pos_of_pos_right _ (by omega)
        have hg' : 0 < ((Int.gcd a b : Nat) : Int) := by have : Int.gcd a b = Nat.gcd a.natAbs b.natAbs := rfl; omega
        refine ⟨?_, ?_, bn, bd⟩
        · rw [← h2]
          have hdv : ((Int.gcd a b : Nat) : Int) ∣ b := Int.gcd_dvd_right ..
          generalize ((Int.gcd a b : Nat) : Int) = G at hdv hg'
          obtain ⟨k, rfl⟩ := hdv
          rw [Int.mul_tdiv_cancel_left _ (by omega)]
          by_cases h0 : 0 < k
          · exact h0
          · exfalso
            have : G * k ≤ 0 := Int.mul_nonpos_of_nonneg_of_nonpos (by omega) (by omega)
            omega
        · have e1 : n.natAbs = a.natAbs / Nat.gcd a.natAbs b.natAbs := by rw [← h1, Int.natAbs_tdiv, Int.natAbs_natCast]; rfl
          have e2 : d.natAbs = b.natAbs / Nat.gcd a.natAbs b.natAbs := by rw [← h2, Int.natAbs_tdiv, Int.natAbs_natCast]; rfl
          have e3 : Int.gcd n d = Nat.gcd n.natAbs d.natAbs := rfl
          rw [e3, e1, e2, Nat.gcd_div (Nat.gcd_dvd_left _ _) (Nat.gcd_dvd_right _ _), Nat.div_self hg]
      · simp at h
theorem qn_one (n : Int) : qn n 1 = n ∧ qd n 1 = 1 := by
  unfold qn qd
  rw [if_neg (by decide), if_neg (by decide), if_neg (by decide), if_neg (by decide)]
  have : Int.gcd n 1 = 1 := by simp
  rw [this]
  exact ⟨Int.tdiv_one n, by decide⟩
/-- The floor. -/
theorem flr_bounds {n d f : Int} (hd : 0 < d) (h : flr n d = f) : f * d ≤ n ∧ n < (f + 1) * d := by
  have e : dd d = d := by unfold dd; rw [if_neg (by omega)]
  unfold flr at h
  rw [e] at h
  have h1 := Int.mul_tdiv_add_tmod n d
  rw [Int.mul_comm] at h1
  have h2 : (n.tmod d).natAbs < d.natAbs := by rw [Int.natAbs_tmod]; exact Nat.mod_lt _ (by omega)
  by_cases hs : sg (n.tmod d) < 0
  · rw [if_pos hs] at h
    have h3 : n.tmod d < 0 := by
      unfold sg at hs
      split at hs
      · assumption
      · split at hs <;> omega
    have h4 : f + 1 = n.tdiv d := by omega
    rw [h4]
    have h5 : f * d = n.tdiv d * d - d := by rw [← h, Int.sub_mul, Int.one_mul]
    omega
  · rw [if_neg hs] at h
    have h3 : 0 ≤ n.tmod d := by
      unfold sg at hs
      split at hs
      · omega
      · omega
    rw [← h, Int.add_mul, Int.one_mul]
    omega

theorem LongQ (s : ByteArray) (w : World) (b : Bool) (h : decide (200 < (s.size : Int)) = b) : Calls Try.prog 50 #[.string s] w (RetB b w) := by
  subst h
  have e : decide (200 < s.size) = decide (200 < (s.size : Int)) := by by_cases h1 : 200 < s.size <;> simp [h1] <;> omega
  go_enter Try.func50, Try.ntmps50
  go_wp2
  go_ret
  exact ⟨by first | rfl | rw [e], Below.refl _ _⟩

theorem rounds_l (a : ByteArray) (w : World) (n d : Int) (er : Int) (hp : Aside0 (rp a = (n, d, er))) (hl : Aside0 (decide (200 < (a.size : Int)) = true)) : Calls Try.prog 18 #[.string a] w (fun e W' => e = .returned (.bool true) ∧ Below w.heap.size w W') := by
  have hu25 := Try.underlying25
  have hu51 := Try.underlying51
  have H := Sit.start w (fun _ => False)
  go_enter Try.func18, Try.ntmps18
  have st2 := trivial
  have st8 := trivial
  have st10 := trivial
  go_upto_region 4 with (first
    | (clear st2; go_at_call 38; (with_reducible refine (awake2 _).mono ?_); rintro e wA ⟨rfl, hb⟩; replace H := H.call hb; clear hb)
    | (clear st8; go_at_call 49; (with_reducible refine (ParseR a _ n d er hp.out).mono ?_); rintro e w3 ⟨A4, c5, A6, c7, rfl, hr, hr2, hb⟩; replace H := (H.got (fresh_row hr) hb).more ((H.got (fresh_row hr2) hb).row _ m0); clear hr hr2 hb)
    | (clear st10; (with_reducible refine gate_dst (N := 3) rfl ?_); refine box_event ?hg (N := 3) ?hd (cs := #[.bool false, .slice none 0 0, .bool false, .slice none 0 0]) (t := 51) ?hr ?_; (case hd => rfl); (case hg => rfl); (case hr => go_simp; try rfl); intro g3 hg w9 hbox hb; replace H := H.newbox hg hbox hb; clear hg hbox hb; obtain ⟨k3_0, z3_0, k3_1, z3_1, k3_2, z3_2, k3_3, z3_3⟩ := H.b4 (g := g3) m0))
  (try simp only [Act.put, List.setIfInBounds_toArray, List.set_cons_zero, List.set_cons_succ])
  replace H := ((((H.setn [] 0 (.bool (ng n)) rfl).setn [] 1 (.slice A4 (ln n) c5) rfl).setn [] 2 (.bool (ng d)) rfl).setn [] 3 (.slice A6 (ln d) c7) rfl)
  clear k3_0 z3_0 k3_1 z3_1 k3_2 z3_2 k3_3 z3_3
  generalize ((((w9.setCell ⟨g3, 0, none⟩ (.bool (ng n))).setCell ⟨g3, 1, none⟩ (.slice A4 (ln n) c5)).setCell ⟨g3, 2, none⟩ (.bool (ng d))).setCell ⟨g3, 3, none⟩ (.slice A6 (ln d) c7)) = w11 at H ⊢
  obtain ⟨k3_0, z3_0, k3_1, z3_1, k3_2, z3_2, k3_3, z3_3⟩ := H.b4 (g := g3) m0
  have st13 := trivial
  go_wp2_with (first
    | (clear st13; go_at_call 50; (with_reducible refine (LongQ a _ true hl.out).mono ?_); rintro e wB ⟨rfl, hb⟩; replace H := H.call hb; clear hb; clear k3_0 z3_0 k3_1 z3_1 k3_2 z3_2 k3_3 z3_3; obtain ⟨k3_0, z3_0, k3_1, z3_1, k3_2, z3_2, k3_3, z3_3⟩ := H.b4 (g := g3) m0))
  go_ret
  exact ⟨rfl, H.below⟩

theorem rounds_e (a : ByteArray) (w : World) (n d : Int) (er : Int) (hp : Aside0 (rp a = (n, d, er))) (hl : Aside0 (decide (200 < (a.size : Int)) = false)) (t1 : (er != 0) = true) : Calls Try.prog 18 #[.string a] w (fun e W' => e = .returned (.bool true) ∧ Below w.heap.size w W') := by
  have hu25 := Try.underlying25
  have hu51 := Try.underlying51
  have H := Sit.start w (fun _ => False)
  go_enter Try.func18, Try.ntmps18
  have st2 := trivial
  have st8 := trivial
  have st10 := trivial
  go_upto_region 4 with (first
    | (clear st2; go_at_call 38; (with_reducible refine (awake2 _).mono ?_); rintro e wA ⟨rfl, hb⟩; replace H := H.call hb; clear hb)
    | (clear st8; go_at_call 49; (with_reducible refine (ParseR a _ n d er hp.out).mono ?_); rintro e w3 ⟨A4, c5, A6, c7, rfl, hr, hr2, hb⟩; replace H := (H.got (fresh_row hr) hb).more ((H.got (fresh_row hr2) hb).row _ m0); clear hr hr2 hb)
    | (clear st10; (with_reducible refine gate_dst (N := 3) rfl ?_); refine box_event ?hg (N := 3) ?hd (cs := #[.bool false, .slice none 0 0, .bool false, .slice none 0 0]) (t := 51) ?hr ?_; (case hd => rfl); (case hg => rfl); (case hr => go_simp; try rfl); intro g3 hg w9 hbox hb; replace H := H.newbox hg hbox hb; clear hg hbox hb; obtain ⟨k3_0, z3_0, k3_1, z3_1, k3_2, z3_2, k3_3, z3_3⟩ := H.b4 (g := g3) m0))
  (try simp only [Act.put, List.setIfInBounds_toArray, List.set_cons_zero, List.set_cons_succ])
  replace H := ((((H.setn [] 0 (.bool (ng n)) rfl).setn [] 1 (.slice A4 (ln n) c5) rfl).setn [] 2 (.bool (ng d)) rfl).setn [] 3 (.slice A6 (ln d) c7) rfl)
  clear k3_0 z3_0 k3_1 z3_1 k3_2 z3_2 k3_3 z3_3
  generalize ((((w9.setCell ⟨g3, 0, none⟩ (.bool (ng n))).setCell ⟨g3, 1, none⟩ (.slice A4 (ln n) c5)).setCell ⟨g3, 2, none⟩ (.bool (ng d))).setCell ⟨g3, 3, none⟩ (.slice A6 (ln d) c7)) = w11 at H ⊢
  obtain ⟨k3_0, z3_0, k3_1, z3_1, k3_2, z3_2, k3_3, z3_3⟩ := H.b4 (g := g3) m0
  have st13 := trivial
  go_wp2_with (first
    | (clear st13; go_at_call 50; (with_reducible refine (LongQ a _ false hl.out).mono ?_); rintro e wB ⟨rfl, hb⟩; replace H := H.call hb; clear hb; clear k3_0 z3_0 k3_1 z3_1 k3_2 z3_2 k3_3 z3_3; obtain ⟨k3_0, z3_0, k3_1, z3_1, k3_2, z3_2, k3_3, z3_3⟩ := H.b4 (g := g3) m0))
  go_ret
  exact ⟨rfl, H.below⟩

def tb18.T7 : Bool × List (List Nat × List Nat) := (true, [([], []), ([0], [0]), ([], []), ([1, 2, 1], [1, 2]), ([3], [3]), ([4], [4]), ([4], [4]), ([], []), ([7, 5, 3, 0, 1, 2, 3, 4, 5, 7], [5, 7]), ([6, 8, 0, 1, 2, 3, 4, 5, 6, 7, 8], [6])])
def tb18.B7 : List Nat := [0, 1, 0, 7, 15, 31, 31, 0, 191, 511]
theorem tb18.tab7 : rtab .any (opsOf Try.f18 7) = tb18.T7 := by kernel_rfl
theorem tb18.bits7 : waitsOk tb18.T7.2 tb18.B7 = true := by kernel_rfl
def tb18.T8 : Bool × List (List Nat × List Nat) := (true, [([], []), ([0], [0]), ([], []), ([1, 2, 1], [1, 2]), ([3], [3]), ([4], [4]), ([4], [4]), ([], []), ([7, 5, 3, 0, 1, 2, 3, 4, 5, 7], [5, 7]), ([6, 8, 0, 1, 2, 3, 4, 5, 6, 7, 8], [6])])
def tb18.B8 : List Nat := [0, 1, 0, 7, 15, 31, 31, 0, 191, 511]
theorem tb18.tab8 : rtab .any (opsOf Try.f18 8) = tb18.T8 := by kernel_rfl
theorem tb18.bits8 : waitsOk tb18.T8.2 tb18.B8 = true := by kernel_rfl
def tb18.T9 : Bool × List (List Nat × List Nat) := (true, [([], []), ([0], [0]), ([1], [1]), ([2], [2]), ([3, 2], [2, 3]), ([2, 4], [2, 4]), ([5, 2], [5]), ([6], [6]), ([6], [6]), ([7, 8, 6, 6], [6, 7, 8]), ([9, 6], [6, 9]), ([6, 10], [6, 10]), ([11, 9], [11]), ([12], [12]), ([12], [12]), ([13, 14, 12, 12], [12, 13, 14]), ([15, 12], [12, 15]), ([12, 16], [12, 16]), ([17, 15], [17]), ([18], [18]), ([19, 18, 18], [18, 19]), ([20, 20, 18], [18, 20]), ([21, 21, 18], [18, 21]), ([18], [18]), ([23, 22, 18], [18, 23]), ([22, 24, 24, 18], [18, 22, 24]), ([25, 18], [18, 25]), ([18, 26], [18, 26])])
def tb18.B9 : List Nat := [0, 1, 3, 7, 15, 31, 63, 127, 127, 511, 1023, 2047, 4095, 8191, 8191, 32767, 65535, 131071, 262143, 524287, 1048575, 2097151, 4194303, 524287, 16777215, 33554431, 67108863, 134217727]
theorem tb18.tab9 : rtab .any (opsOf Try.f18 9) = tb18.T9 := by kernel_rfl
theorem tb18.bits9 : waitsOk tb18.T9.2 tb18.B9 = true := by kernel_rfl

theorem rounds_w (a : ByteArray) (w : World) (n d : Int) (hp : Aside0 (rp a = (n, d, 0))) (hl : Aside0 (decide (200 < (a.size : Int)) = false)) (bn : Aside0 (ln n ≤ 512)) (bd : Aside0 (ln d ≤ 512)) (i f c f1 j1 c1 j2 n2 f2 c2 k1 k2 e1 u v z1 z2 : Int) (bi : Aside0 (ln i ≤ 1)) (bf : Aside0 (ln f ≤ 513)) (bc : Aside0 (ln c ≤ 513)) (bf1 : Aside0 (ln f1 ≤ 513)) (bj1 : Aside0 (ln j1 ≤ 1)) (bc1 : Aside0 (ln c1 ≤ 513)) (bj2 : Aside0 (ln j2 ≤ 1)) (bn2 : Aside0 (ln n2 ≤ 512)) (bf2 : Aside0 (ln f2 ≤ 513)) (bc2 : Aside0 (ln c2 ≤ 513)) (be1 : Aside0 (ln e1 ≤ 512)) (bu : Aside0 (ln u ≤ 600)) (bv : Aside0 (ln v ≤ 600)) (bz1 : Aside0 (ln z1 ≤ 1)) (bz2 : Aside0 (ln z2 ≤ 1)) (hi : Aside0 ((1 : Int) = i)) (hf : Aside0 (flr n d = f)) (hlo : Aside0 (qn f i = f1 ∧ qd f i = j1 ∧ qe i = 0)) (hc : Aside0 (-(flr (-n) d) = c)) (hhi : Aside0 (qn c i = c1 ∧ qd c i = j2 ∧ qe i = 0)) (hk1 : Aside0 (cmp3 (f1 * dd d) (n * dd j1) = k1)) (t1 : decide (0 < k1) = false) (hk2 : Aside0 (cmp3 (c1 * dd d) (n * dd j2) = k2)) (t2 : decide (k2 < 0) = false) (hn2 : Aside0 (-n = n2)) (d9 : Int) (hd9 : Aside0 (d = d9)) (bd9 : Aside0 (ln d9 ≤ 512)) (hf2 : Aside0 (flr n2 d9 = f2)) (h_c2 : Aside0 (-f2 = c2)) (hk3 : Aside0 (cmp3 c2 c = 0)) (he1 : Aside0 (dd d = e1)) (hu : Aside0 (qn (c1 * dd j1 + -f1 * dd j2) (dd j2 * dd j1) = u ∧ qd (c1 * dd j1 + -f1 * dd j2) (dd j2 * dd j1) = v)) (hz : Aside0 ((0 : Int) = z1 ∧ 0 = z2 ∧ -9223372036854775808 ≤ (0 : Int) ∧ (0 : Int) ≤ 9223372036854775807)) (hk4 : Aside0 (cmp3 e1 i = 0)) (hs1 : Aside0 (cmp3 (u * dd z2) (z1 * dd v) = 0)) (hs2 : Aside0 (qt u v = qt z1 z2)) : Calls Try.prog 18 #[.string a] w (fun e W' => e = .returned (.bool true) ∧ Below w.heap.size w W') := by
  have hu25 := Try.underlying25
  have hu51 := Try.underlying51
  have H := Sit.start w (fun _ => False)
  go_enter Try.func18, Try.ntmps18
  have st2 := trivial
  have st8 := trivial
  have st10 := trivial
  go_upto_region 4 with (first
    | (clear st2; go_at_call 38; (with_reducible refine (awake2 _).mono ?_); rintro e wA ⟨rfl, hb⟩; replace H := H.call hb; clear hb)
    | (clear st8; go_at_call 49; (with_reducible refine (ParseR a _ n d 0 hp.out).mono ?_); rintro e w3 ⟨A4, c5, A6, c7, rfl, hr, hr2, hb⟩; replace H := (H.got (fresh_row hr) hb).more ((H.got (fresh_row hr2) hb).row _ m0); clear hr hr2 hb)
    | (clear st10; (with_reducible refine gate_dst (N := 3) rfl ?_); refine box_event ?hg (N := 3) ?hd (cs := #[.bool false, .slice none 0 0, .bool false, .slice none 0 0]) (t := 51) ?hr ?_; (case hd => rfl); (case hg => rfl); (case hr => go_simp; try rfl); intro g3 hg w9 hbox hb; replace H := H.newbox hg hbox hb; clear hg hbox hb; obtain ⟨k3_0, z3_0, k3_1, z3_1, k3_2, z3_2, k3_3, z3_3⟩ := H.b4 (g := g3) m0))
  (try simp only [Act.put, List.setIfInBounds_toArray, List.set_cons_zero, List.set_cons_succ])
  replace H := ((((H.setn [] 0 (.bool (ng n)) rfl).setn [] 1 (.slice A4 (ln n) c5) rfl).setn [] 2 (.bool (ng d)) rfl).setn [] 3 (.slice A6 (ln d) c7) rfl)
  clear k3_0 z3_0 k3_1 z3_1 k3_2 z3_2 k3_3 z3_3
  generalize ((((w9.setCell ⟨g3, 0, none⟩ (.bool (ng n))).setCell ⟨g3, 1, none⟩ (.slice A4 (ln n) c5)).setCell ⟨g3, 2, none⟩ (.bool (ng d))).setCell ⟨g3, 3, none⟩ (.slice A6 (ln d) c7)) = w11 at H ⊢
  obtain ⟨k3_0, z3_0, k3_1, z3_1, k3_2, z3_2, k3_3, z3_3⟩ := H.b4 (g := g3) m0
  have st13 := trivial
  have st17 := trivial
  have st19 := trivial
  go_upto_region 7 with (first
    | (clear st13; go_at_call 50; (with_reducible refine (LongQ a _ false hl.out).mono ?_); rintro e w12 ⟨rfl, hb⟩; replace H := H.call hb; clear hb; clear k3_0 z3_0 k3_1 z3_1 k3_2 z3_2 k3_3 z3_3; obtain ⟨k3_0, z3_0, k3_1, z3_1, k3_2, z3_2, k3_3, z3_3⟩ := H.b4 (g := g3) m0)
    | (clear st17; go_at_call 27; (with_reducible refine (OfQ _ 1 i hi.out (by decide) (by decide)).mono ?_); rintro e w14 ⟨A15, c16, rfl, hr, hb⟩; replace H := H.got (fresh_row hr) hb; clear hr hb; clear k3_0 z3_0 k3_1 z3_1 k3_2 z3_2 k3_3 z3_3; obtain ⟨k3_0, z3_0, k3_1, z3_1, k3_2, z3_2, k3_3, z3_3⟩ := H.b4 (g := g3) m0)
    | (clear st19; (with_reducible refine gate_dst (N := 5) rfl ?_); refine box_event ?hg (N := 5) ?hd (cs := #[.bool false, .slice none 0 0]) (t := 25) ?hr ?_; (case hd => rfl); (case hg => rfl); (case hr => go_simp; try rfl); intro g5 hg w18 hbox hb; replace H := H.newbox hg hbox hb; clear hg hbox hb; clear k3_0 z3_0 k3_1 z3_1 k3_2 z3_2 k3_3 z3_3; obtain ⟨k5_0, z5_0, k5_1, z5_1⟩ := H.b2 (g := g5) m0; obtain ⟨k3_0, z3_0, k3_1, z3_1, k3_2, z3_2, k3_3, z3_3⟩ := H.b4 (g := g3) m1; have ne_g5_g3 := H.ne (g := g5) (g' := g3) 0 1 rfl rfl (by decide); have ne_g3_g5 := ne_g5_g3.symm))
  (try simp only [Act.put, List.setIfInBounds_toArray, List.set_cons_zero, List.set_cons_succ])
  replace H := ((H.setn [] 0 (.bool (ng i)) rfl).setn [] 1 (.slice A15 (ln i) c16) rfl)
  clear k5_0 z5_0 k5_1 z5_1 k3_0 z3_0 k3_1 z3_1 k3_2 z3_2 k3_3 z3_3
  generalize ((w18.setCell ⟨g5, 0, none⟩ (.bool (ng i))).setCell ⟨g5, 1, none⟩ (.slice A15 (ln i) c16)) = w20 at H ⊢
  obtain ⟨k5_0, z5_0, k5_1, z5_1⟩ := H.b2 (g := g5) m0
  obtain ⟨k3_0, z3_0, k3_1, z3_1, k3_2, z3_2, k3_3, z3_3⟩ := H.b4 (g := g3) m1
  clear k5_0 z5_0 k5_1 z5_1 k3_0 z3_0 k3_1 z3_1 k3_2 z3_2 k3_3 z3_3
  replace H := H.drew
  refine start_ (n := 10) (S := fun w' => w'.cell? ⟨g3, 0, none⟩ = some (.bool (ng n)) ∧ w'.cell? ⟨g3, 1, none⟩ = some (.slice A4 (ln n) c5) ∧ w'.cell? ⟨g3, 2, none⟩ = some (.bool (ng d)) ∧ w'.cell? ⟨g3, 3, none⟩ = some (.slice A6 (ln d) c7) ∧ w'.cell? ⟨g5, 0, none⟩ = some (.bool (ng i)) ∧ w'.cell? ⟨g5, 1, none⟩ = some (.slice A15 (ln i) c16)) (ds := [8]) #[false, false, false, false, false, false, false, false, false, false] (by kernel_rfl) rfl rfl ⟨H.cell m1 0, H.cell m1 1, H.cell m1 2, H.cell m1 3, H.cell m0 0, H.cell m0 1⟩ (fun hQ => ?_)
  generalize w20.drew = w21 at H hQ ⊢
  refine with_tabW tb18.tab7 tb18.bits7 (fun HT_ HW_ => ?_)
  refine take_ (i := 0) (N := some 26) (v := ?_) (a' := ?_) (bm 10 1) rfl rfl (take_ofW HT_.out HW_.out (by kernel_rfl)) (fun _ _ _ h => h) (Or.inl ⟨by rfl, ?_⟩) hQ ?_ ?_
  rotate_left
  · rintro w' ⟨s0, s1, s2, s3, s4, s5⟩
    go_simp
    with_reducible rfl
  rotate_left
  · simp only [Act.put, List.setIfInBounds_toArray, List.set_cons_zero, List.set_cons_succ, i64_w, i32_w]
    rfl
  refine take_ (i := 2) (N := some 28) (v := ?_) (a' := ?_) (bm 10 5) rfl rfl (take_ofW HT_.out HW_.out (by kernel_rfl)) (fun _ _ _ h => h) (Or.inl ⟨by rfl, ?_⟩) hQ ?_ ?_
  rotate_left
  · rintro w' ⟨s0, s1, s2, s3, s4, s5⟩
    go_simp
    with_reducible rfl
  rotate_left
  · simp only [Act.put, List.setIfInBounds_toArray, List.set_cons_zero, List.set_cons_succ, i64_w, i32_w]
    rfl
  refine join_ (σ := Option Addr × Nat × Option Addr × Nat × Option Addr × Nat × Nat) 2 #[true, true, true, true, true, true, true, true, false, false] (fun s_ => [(27, .agg #[.bool (ng f), .slice s_.1 (ln f) s_.2.1]), (29, .tuple #[.agg #[.bool (ng f1), .slice s_.2.2.1 (ln f1) s_.2.2.2.1, .bool (ng j1), .slice s_.2.2.2.2.1 (ln j1) s_.2.2.2.2.2.1], .int .i64 0]), (6, .pointer (some ⟨s_.2.2.2.2.2.2, 0, none⟩)), (25, .tuple #[.agg #[.bool (ng f1), .slice s_.2.2.1 (ln f1) s_.2.2.2.1, .bool (ng j1), .slice s_.2.2.2.2.1 (ln j1) s_.2.2.2.2.2.1], .int .i64 0]), (30, .agg #[.bool (ng f1), .slice s_.2.2.1 (ln f1) s_.2.2.2.1, .bool (ng j1), .slice s_.2.2.2.2.1 (ln j1) s_.2.2.2.2.2.1]), (31, .int .i64 0)]) (fun s_ w' => Sit w w' (fun _ => False) [(s_.2.2.2.2.2.2, .cells #[.bool false, .slice none 0 0, .bool false, .slice none 0 0] 51 (0, 0)), (g5, .cells #[.bool (ng i), .slice A15 (ln i) c16] 25 (0, 0)), (g3, .cells #[.bool (ng n), .slice A4 (ln n) c5, .bool (ng d), .slice A6 (ln d) c7] 51 (0, 0))] [bw s_.2.2.2.2.1 s_.2.2.2.2.2.1 j1, bw s_.2.2.1 s_.2.2.2.1 f1, bw s_.1 s_.2.1 f, bw A15 c16 i, bw A6 c7 d, bw A4 c5 n]) ?_ ?_
  rotate_left
  · intro hCont
    refine two_ (i := 1) (j := 7) (Ni := some 27) (Nj := some 6) (bm 10 7) (bm 10 133) rfl rfl rfl rfl (two_of HT_.out (by kernel_rfl)) (by decide) (by decide) (fun K hK => ?_) (fun K hK => ?_)
    · skip
      refine goes_ Try.func43 (by kernel_rfl) rfl #[.agg #[.bool (ng n), .slice A4 (ln n) c5, .bool (ng d), .slice A6 (ln d) c7]] (by rfl) rfl rfl (by simp only [List.map_toArray, List.map_cons, List.map_nil]; try rfl) ?_
      with_reducible refine (FloorR (H.row _ m2) (H.row _ m1) (limR bn.out (by decide)) (limR bd.out (by decide)) f hf.out).mono ?_
      rintro e w42 ⟨A43, c44, rfl, hr, hb⟩
      replace H := H.got hr hb
      clear hr hb
      refine ⟨_, rfl, ?_⟩
      refine hK.out _ _ ⟨H.cell m1 0, H.cell m1 1, H.cell m1 2, H.cell m1 3, H.cell m0 0, H.cell m0 1⟩ (fun hQ => ?_)
      clear hK K
      refine norm_ (a' := ?_) ?_ ?_
      rotate_left
      · show Act.put _ (some 27) _ = _
        simp only [Act.put, List.setIfInBounds_toArray, List.set_cons_zero, List.set_cons_succ, i64_w, i32_w]
        rfl
      refine two_ (i := 3) (j := 7) (Ni := some 29) (Nj := some 6) (bm 10 15) (bm 10 135) rfl rfl rfl rfl (two_of HT_.out (by kernel_rfl)) (by decide) (by decide) (fun K hK => ?_) (fun K hK => ?_)
      · skip
        refine goes_ Try.func63 (by kernel_rfl) rfl #[.agg #[.bool (ng f), .slice A43 (ln f) c44], .agg #[.bool (ng i), .slice A15 (ln i) c16]] (by rfl) rfl rfl (by simp only [List.map_toArray, List.map_cons, List.map_nil]; try rfl) ?_
        with_reducible refine (MakeQ (H.row _ m0) (H.row _ m1) (lim bf.out (by decide)) (lim bi.out (by decide)) f1 j1 0 hlo.out.1 hlo.out.2.1 hlo.out.2.2).mono ?_
        rintro e w65 ⟨A66, c67, A68, c69, rfl, hr, hr2, hb⟩
        replace H := (H.got hr hb).more ((H.got hr2 hb).row _ m0)
        clear hr hr2 hb
        refine ⟨_, rfl, ?_⟩
        refine hK.out _ _ ⟨H.cell m1 0, H.cell m1 1, H.cell m1 2, H.cell m1 3, H.cell m0 0, H.cell m0 1⟩ (fun hQ => ?_)
        clear hK K
        refine norm_ (a' := ?_) ?_ ?_
        rotate_left
        · show Act.put _ (some 29) _ = _
          simp only [Act.put, List.setIfInBounds_toArray, List.set_cons_zero, List.set_cons_succ, i64_w, i32_w]
          rfl
        refine pure_ (i := 4) (N := some 25) (v := ?_) (a' := ?_) (bm 10 31) rfl rfl (any_of HT_.out (by kernel_rfl)) (fun _ _ _ h => h) (Or.inl ⟨by rfl, ?_⟩) ?_ ?_
        rotate_left
        · intro w'
          go_simp
          with_reducible rfl
        rotate_left
        · simp only [Act.put, List.setIfInBounds_toArray, List.set_cons_zero, List.set_cons_succ, i64_w, i32_w]
          rfl
        refine pure_ (i := 5) (N := some 30) (v := ?_) (a' := ?_) (bm 10 63) rfl rfl (any_of HT_.out (by kernel_rfl)) (fun _ _ _ h => h) (Or.inl ⟨by rfl, ?_⟩) ?_ ?_
        rotate_left
        · intro w'
          go_simp
          with_reducible rfl
        rotate_left
        · simp only [Act.put, List.setIfInBounds_toArray, List.set_cons_zero, List.set_cons_succ, i64_w, i32_w]
          rfl
        refine pure_ (i := 6) (N := some 31) (v := ?_) (a' := ?_) (bm 10 127) rfl rfl (any_of HT_.out (by kernel_rfl)) (fun _ _ _ h => h) (Or.inl ⟨by rfl, ?_⟩) ?_ ?_
        rotate_left
        · intro w'
          go_simp
          with_reducible rfl
        rotate_left
        · simp only [Act.put, List.setIfInBounds_toArray, List.set_cons_zero, List.set_cons_succ, i64_w, i32_w]
          rfl
        refine one_ (i := 7) (N := some 6) (bm 10 255) rfl rfl (one_of HT_.out (by kernel_rfl)) (by decide) (fun K hK => ?_)
        refine value_ (w1 := ?_) (v := ?_) (by rfl) rfl ?_ ?_
        rotate_left 2
        · go_simp
          constructor
          · rfl
          · rfl
        replace H := H.newbox rfl (blk_new _ (.cells #[.bool false, .slice none 0 0, .bool false, .slice none 0 0] 51 (0, 0))) (below_alloc (Below.refl _ _) _)
        refine hK.out _ _ ⟨H.cell m2 0, H.cell m2 1, H.cell m2 2, H.cell m2 3, H.cell m1 0, H.cell m1 1⟩ (fun hQ => ?_)
        clear hK K
        refine norm_ (a' := ?_) ?_ ?_
        rotate_left
        · show Act.put _ (some 6) _ = _
          simp only [Act.put, List.setIfInBounds_toArray, List.set_cons_zero, List.set_cons_succ, i64_w, i32_w]
          rfl
        exact norm_ (by simp only [putAll, Act.put, List.setIfInBounds_toArray, List.set_cons_zero, List.set_cons_succ]; try rfl) (hCont ⟨A43, c44, A66, c67, A68, c69, _⟩ _ H)
      · skip
        refine value_ (w1 := ?_) (v := ?_) (by rfl) rfl ?_ ?_
        rotate_left 2
        · go_simp
          constructor
          · rfl
          · rfl
        replace H := H.newbox rfl (blk_new _ (.cells #[.bool false, .slice none 0 0, .bool false, .slice none 0 0] 51 (0, 0))) (below_alloc (Below.refl _ _) _)
        refine hK.out _ _ ⟨H.cell m2 0, H.cell m2 1, H.cell m2 2, H.cell m2 3, H.cell m1 0, H.cell m1 1⟩ (fun hQ => ?_)
        clear hK K
        refine norm_ (a' := ?_) ?_ ?_
        rotate_left
        · show Act.put _ (some 6) _ = _
          simp only [Act.put, List.setIfInBounds_toArray, List.set_cons_zero, List.set_cons_succ, i64_w, i32_w]
          rfl
        refine one_ (i := 3) (N := some 29) (bm 10 143) rfl rfl (one_of HT_.out (by kernel_rfl)) (by decide) (fun K hK => ?_)
        refine goes_ Try.func63 (by kernel_rfl) rfl #[.agg #[.bool (ng f), .slice A43 (ln f) c44], .agg #[.bool (ng i), .slice A15 (ln i) c16]] (by rfl) rfl rfl (by simp only [List.map_toArray, List.map_cons, List.map_nil]; try rfl) ?_
        with_reducible refine (MakeQ (H.row _ m0) (H.row _ m1) (lim bf.out (by decide)) (lim bi.out (by decide)) f1 j1 0 hlo.out.1 hlo.out.2.1 hlo.out.2.2).mono ?_
        rintro e w65 ⟨A66, c67, A68, c69, rfl, hr, hr2, hb⟩
        replace H := (H.got hr hb).more ((H.got hr2 hb).row _ m0)
        clear hr hr2 hb
        refine ⟨_, rfl, ?_⟩
        refine hK.out _ _ ⟨H.cell m2 0, H.cell m2 1, H.cell m2 2, H.cell m2 3, H.cell m1 0, H.cell m1 1⟩ (fun hQ => ?_)
        clear hK K
        refine norm_ (a' := ?_) ?_ ?_
        rotate_left
        · show Act.put _ (some 29) _ = _
          simp only [Act.put, List.setIfInBounds_toArray, List.set_cons_zero, List.set_cons_succ, i64_w, i32_w]
          rfl
        refine pure_ (i := 4) (N := some 25) (v := ?_) (a' := ?_) (bm 10 159) rfl rfl (any_of HT_.out (by kernel_rfl)) (fun _ _ _ h => h) (Or.inl ⟨by rfl, ?_⟩) ?_ ?_
        rotate_left
        · intro w'
          go_simp
          with_reducible rfl
        rotate_left
        · simp only [Act.put, List.setIfInBounds_toArray, List.set_cons_zero, List.set_cons_succ, i64_w, i32_w]
          rfl
        refine pure_ (i := 5) (N := some 30) (v := ?_) (a' := ?_) (bm 10 191) rfl rfl (any_of HT_.out (by kernel_rfl)) (fun _ _ _ h => h) (Or.inl ⟨by rfl, ?_⟩) ?_ ?_
        rotate_left
        · intro w'
          go_simp
          with_reducible rfl
        rotate_left
        · simp only [Act.put, List.setIfInBounds_toArray, List.set_cons_zero, List.set_cons_succ, i64_w, i32_w]
          rfl
        refine pure_ (i := 6) (N := some 31) (v := ?_) (a' := ?_) (bm 10 255) rfl rfl (any_of HT_.out (by kernel_rfl)) (fun _ _ _ h => h) (Or.inl ⟨by rfl, ?_⟩) ?_ ?_
        rotate_left
        · intro w'
          go_simp
          with_reducible rfl
        rotate_left
        · simp only [Act.put, List.setIfInBounds_toArray, List.set_cons_zero, List.set_cons_succ, i64_w, i32_w]
          rfl
        exact norm_ (by simp only [putAll, Act.put, List.setIfInBounds_toArray, List.set_cons_zero, List.set_cons_succ]; try rfl) (hCont ⟨A43, c44, A66, c67, A68, c69, _⟩ _ H)
    · skip
      refine value_ (w1 := ?_) (v := ?_) (by rfl) rfl ?_ ?_
      rotate_left 2
      · go_simp
        constructor
        · rfl
        · rfl
      replace H := H.newbox rfl (blk_new _ (.cells #[.bool false, .slice none 0 0, .bool false, .slice none 0 0] 51 (0, 0))) (below_alloc (Below.refl _ _) _)
      refine hK.out _ _ ⟨H.cell m2 0, H.cell m2 1, H.cell m2 2, H.cell m2 3, H.cell m1 0, H.cell m1 1⟩ (fun hQ => ?_)
      clear hK K
      refine norm_ (a' := ?_) ?_ ?_
      rotate_left
      · show Act.put _ (some 6) _ = _
        simp only [Act.put, List.setIfInBounds_toArray, List.set_cons_zero, List.set_cons_succ, i64_w, i32_w]
        rfl
      refine one_ (i := 1) (N := some 27) (bm 10 135) rfl rfl (one_of HT_.out (by kernel_rfl)) (by decide) (fun K hK => ?_)
      refine goes_ Try.func43 (by kernel_rfl) rfl #[.agg #[.bool (ng n), .slice A4 (ln n) c5, .bool (ng d), .slice A6 (ln d) c7]] (by rfl) rfl rfl (by simp only [List.map_toArray, List.map_cons, List.map_nil]; try rfl) ?_
      with_reducible refine (FloorR (H.row _ m2) (H.row _ m1) (limR bn.out (by decide)) (limR bd.out (by decide)) f hf.out).mono ?_
      rintro e w42 ⟨A43, c44, rfl, hr, hb⟩
      replace H := H.got hr hb
      clear hr hb
      refine ⟨_, rfl, ?_⟩
      refine hK.out _ _ ⟨H.cell m2 0, H.cell m2 1, H.cell m2 2, H.cell m2 3, H.cell m1 0, H.cell m1 1⟩ (fun hQ => ?_)
      clear hK K
      refine norm_ (a' := ?_) ?_ ?_
      rotate_left
      · show Act.put _ (some 27) _ = _
        simp only [Act.put, List.setIfInBounds_toArray, List.set_cons_zero, List.set_cons_succ, i64_w, i32_w]
        rfl
      refine one_ (i := 3) (N := some 29) (bm 10 143) rfl rfl (one_of HT_.out (by kernel_rfl)) (by decide) (fun K hK => ?_)
      refine goes_ Try.func63 (by kernel_rfl) rfl #[.agg #[.bool (ng f), .slice A43 (ln f) c44], .agg #[.bool (ng i), .slice A15 (ln i) c16]] (by rfl) rfl rfl (by simp only [List.map_toArray, List.map_cons, List.map_nil]; try rfl) ?_
      with_reducible refine (MakeQ (H.row _ m0) (H.row _ m1) (lim bf.out (by decide)) (lim bi.out (by decide)) f1 j1 0 hlo.out.1 hlo.out.2.1 hlo.out.2.2).mono ?_
      rintro e w65 ⟨A66, c67, A68, c69, rfl, hr, hr2, hb⟩
      replace H := (H.got hr hb).more ((H.got hr2 hb).row _ m0)
      clear hr hr2 hb
      refine ⟨_, rfl, ?_⟩
      refine hK.out _ _ ⟨H.cell m2 0, H.cell m2 1, H.cell m2 2, H.cell m2 3, H.cell m1 0, H.cell m1 1⟩ (fun hQ => ?_)
      clear hK K
      refine norm_ (a' := ?_) ?_ ?_
      rotate_left
      · show Act.put _ (some 29) _ = _
        simp only [Act.put, List.setIfInBounds_toArray, List.set_cons_zero, List.set_cons_succ, i64_w, i32_w]
        rfl
      refine pure_ (i := 4) (N := some 25) (v := ?_) (a' := ?_) (bm 10 159) rfl rfl (any_of HT_.out (by kernel_rfl)) (fun _ _ _ h => h) (Or.inl ⟨by rfl, ?_⟩) ?_ ?_
      rotate_left
      · intro w'
        go_simp
        with_reducible rfl
      rotate_left
      · simp only [Act.put, List.setIfInBounds_toArray, List.set_cons_zero, List.set_cons_succ, i64_w, i32_w]
        rfl
      refine pure_ (i := 5) (N := some 30) (v := ?_) (a' := ?_) (bm 10 191) rfl rfl (any_of HT_.out (by kernel_rfl)) (fun _ _ _ h => h) (Or.inl ⟨by rfl, ?_⟩) ?_ ?_
      rotate_left
      · intro w'
        go_simp
        with_reducible rfl
      rotate_left
      · simp only [Act.put, List.setIfInBounds_toArray, List.set_cons_zero, List.set_cons_succ, i64_w, i32_w]
        rfl
      refine pure_ (i := 6) (N := some 31) (v := ?_) (a' := ?_) (bm 10 255) rfl rfl (any_of HT_.out (by kernel_rfl)) (fun _ _ _ h => h) (Or.inl ⟨by rfl, ?_⟩) ?_ ?_
      rotate_left
      · intro w'
        go_simp
        with_reducible rfl
      rotate_left
      · simp only [Act.put, List.setIfInBounds_toArray, List.set_cons_zero, List.set_cons_succ, i64_w, i32_w]
        rfl
      exact norm_ (by simp only [putAll, Act.put, List.setIfInBounds_toArray, List.set_cons_zero, List.set_cons_succ]; try rfl) (hCont ⟨A43, c44, A66, c67, A68, c69, _⟩ _ H)
  rintro ⟨A43, c44, A66, c67, A68, c69, g6⟩ wF H
  clear hQ
  have hQ := (show wF.cell? ⟨g3, 0, none⟩ = some (.bool (ng n)) ∧ wF.cell? ⟨g3, 1, none⟩ = some (.slice A4 (ln n) c5) ∧ wF.cell? ⟨g3, 2, none⟩ = some (.bool (ng d)) ∧ wF.cell? ⟨g3, 3, none⟩ = some (.slice A6 (ln d) c7) ∧ wF.cell? ⟨g5, 0, none⟩ = some (.bool (ng i)) ∧ wF.cell? ⟨g5, 1, none⟩ = some (.slice A15 (ln i) c16) from ⟨H.cell m2 0, H.cell m2 1, H.cell m2 2, H.cell m2 3, H.cell m1 0, H.cell m1 1⟩)
  refine norm_ (a' := ?_) ?_ ?_
  rotate_left
  · simp only [putAll, Act.put, List.setIfInBounds_toArray, List.set_cons_zero, List.set_cons_succ]
    rfl
  refine last_ (i := 8) (N := none) (bm 10 511) rfl rfl (one_of HT_.out (by kernel_rfl)) (by decide) (fun K hK => ?_)
  obtain ⟨k6_0, z6_0, k6_1, z6_1, k6_2, z6_2, k6_3, z6_3⟩ := H.b4 (g := g6) m0
  obtain ⟨k5_0, z5_0, k5_1, z5_1⟩ := H.b2 (g := g5) m1
  obtain ⟨k3_0, z3_0, k3_1, z3_1, k3_2, z3_2, k3_3, z3_3⟩ := H.b4 (g := g3) m2
  refine skip_ (w1 := ?_) (by rfl) rfl ?_ ?_
  rotate_left
  · go_simp
    rfl
  refine hK.out _ _ ?_
  clear hK K
  refine pure_ (i := 9) (N := some 7) (v := ?_) (a' := ?_) (bm 10 1023) rfl rfl (any_of HT_.out (by kernel_rfl)) (fun _ _ _ h => h) (Or.inl ⟨by rfl, ?_⟩) ?_ ?_
  rotate_left
  · intro w'
    go_simp
    with_reducible rfl
  rotate_left
  · simp only [Act.put, List.setIfInBounds_toArray, List.set_cons_zero, List.set_cons_succ, i64_w, i32_w]
    rfl
  refine done_ (done_of HT_.out (by kernel_rfl)) ?_
  try clear hQ
  replace H := ((((H.setn [] 0 (.bool (ng f1)) rfl).setn [] 1 (.slice A66 (ln f1) c67) rfl).setn [] 2 (.bool (ng j1)) rfl).setn [] 3 (.slice A68 (ln j1) c69) rfl)
  clear k6_0 z6_0 k6_1 z6_1 k6_2 z6_2 k6_3 z6_3 k5_0 z5_0 k5_1 z5_1 k3_0 z3_0 k3_1 z3_1 k3_2 z3_2 k3_3 z3_3
  generalize ((((wF.setCell ⟨g6, 0, none⟩ (.bool (ng f1))).setCell ⟨g6, 1, none⟩ (.slice A66 (ln f1) c67)).setCell ⟨g6, 2, none⟩ (.bool (ng j1))).setCell ⟨g6, 3, none⟩ (.slice A68 (ln j1) c69)) = w110 at H ⊢
  obtain ⟨k6_0, z6_0, k6_1, z6_1, k6_2, z6_2, k6_3, z6_3⟩ := H.b4 (g := g6) m0
  obtain ⟨k5_0, z5_0, k5_1, z5_1⟩ := H.b2 (g := g5) m1
  obtain ⟨k3_0, z3_0, k3_1, z3_1, k3_2, z3_2, k3_3, z3_3⟩ := H.b4 (g := g3) m2
  go_upto_region 8 with fail
  (try simp only [Act.put, List.setIfInBounds_toArray, List.set_cons_zero, List.set_cons_succ])
  clear k6_0 z6_0 k6_1 z6_1 k6_2 z6_2 k6_3 z6_3 k5_0 z5_0 k5_1 z5_1 k3_0 z3_0 k3_1 z3_1 k3_2 z3_2 k3_3 z3_3
  replace H := H.drew
  refine start_ (n := 10) (S := fun w' => w'.cell? ⟨g3, 0, none⟩ = some (.bool (ng n)) ∧ w'.cell? ⟨g3, 1, none⟩ = some (.slice A4 (ln n) c5) ∧ w'.cell? ⟨g3, 2, none⟩ = some (.bool (ng d)) ∧ w'.cell? ⟨g3, 3, none⟩ = some (.slice A6 (ln d) c7) ∧ w'.cell? ⟨g5, 0, none⟩ = some (.bool (ng i)) ∧ w'.cell? ⟨g5, 1, none⟩ = some (.slice A15 (ln i) c16)) (ds := [8]) #[false, false, false, false, false, false, false, false, false, false] (by kernel_rfl) rfl rfl ⟨H.cell m2 0, H.cell m2 1, H.cell m2 2, H.cell m2 3, H.cell m1 0, H.cell m1 1⟩ (fun hQ => ?_)
  generalize w110.drew = w111 at H hQ ⊢
  refine with_tabW tb18.tab8 tb18.bits8 (fun HT_ HW_ => ?_)
  refine take_ (i := 0) (N := some 33) (v := ?_) (a' := ?_) (bm 10 1) rfl rfl (take_ofW HT_.out HW_.out (by kernel_rfl)) (fun _ _ _ h => h) (Or.inl ⟨by rfl, ?_⟩) hQ ?_ ?_
  rotate_left
  · rintro w' ⟨s0, s1, s2, s3, s4, s5⟩
    go_simp
    with_reducible rfl
  rotate_left
  · simp only [Act.put, List.setIfInBounds_toArray, List.set_cons_zero, List.set_cons_succ, i64_w, i32_w]
    rfl
  refine take_ (i := 2) (N := some 35) (v := ?_) (a' := ?_) (bm 10 5) rfl rfl (take_ofW HT_.out HW_.out (by kernel_rfl)) (fun _ _ _ h => h) (Or.inl ⟨by rfl, ?_⟩) hQ ?_ ?_
  rotate_left
  · rintro w' ⟨s0, s1, s2, s3, s4, s5⟩
    go_simp
    with_reducible rfl
  rotate_left
  · simp only [Act.put, List.setIfInBounds_toArray, List.set_cons_zero, List.set_cons_succ, i64_w, i32_w]
    rfl
  refine join_ (σ := Option Addr × Nat × Option Addr × Nat × Option Addr × Nat × Nat) 2 #[true, true, true, true, true, true, true, true, false, false] (fun s_ => [(34, .agg #[.bool (ng c), .slice s_.1 (ln c) s_.2.1]), (36, .tuple #[.agg #[.bool (ng c1), .slice s_.2.2.1 (ln c1) s_.2.2.2.1, .bool (ng j2), .slice s_.2.2.2.2.1 (ln j2) s_.2.2.2.2.2.1], .int .i64 0]), (8, .pointer (some ⟨s_.2.2.2.2.2.2, 0, none⟩)), (32, .tuple #[.agg #[.bool (ng c1), .slice s_.2.2.1 (ln c1) s_.2.2.2.1, .bool (ng j2), .slice s_.2.2.2.2.1 (ln j2) s_.2.2.2.2.2.1], .int .i64 0]), (37, .agg #[.bool (ng c1), .slice s_.2.2.1 (ln c1) s_.2.2.2.1, .bool (ng j2), .slice s_.2.2.2.2.1 (ln j2) s_.2.2.2.2.2.1]), (38, .int .i64 0)]) (fun s_ w' => Sit w w' (fun _ => False) [(s_.2.2.2.2.2.2, .cells #[.bool false, .slice none 0 0, .bool false, .slice none 0 0] 51 (0, 0)), (g6, .cells #[.bool (ng f1), .slice A66 (ln f1) c67, .bool (ng j1), .slice A68 (ln j1) c69] 51 (0, 0)), (g5, .cells #[.bool (ng i), .slice A15 (ln i) c16] 25 (0, 0)), (g3, .cells #[.bool (ng n), .slice A4 (ln n) c5, .bool (ng d), .slice A6 (ln d) c7] 51 (0, 0))] [bw s_.2.2.2.2.1 s_.2.2.2.2.2.1 j2, bw s_.2.2.1 s_.2.2.2.1 c1, bw s_.1 s_.2.1 c, bw A68 c69 j1, bw A66 c67 f1, bw A43 c44 f, bw A15 c16 i, bw A6 c7 d, bw A4 c5 n]) ?_ ?_
  rotate_left
  · intro hCont
    refine two_ (i := 1) (j := 7) (Ni := some 34) (Nj := some 8) (bm 10 7) (bm 10 133) rfl rfl rfl rfl (two_of HT_.out (by kernel_rfl)) (by decide) (by decide) (fun K hK => ?_) (fun K hK => ?_)
    · skip
      refine goes_ Try.func48 (by kernel_rfl) rfl #[.agg #[.bool (ng n), .slice A4 (ln n) c5, .bool (ng d), .slice A6 (ln d) c7]] (by rfl) rfl rfl (by simp only [List.map_toArray, List.map_cons, List.map_nil]; try rfl) ?_
      with_reducible refine (CeilR (H.row _ m5) (H.row _ m4) (limR bn.out (by decide)) (limR bd.out (by decide)) c hc.out).mono ?_
      rintro e w132 ⟨A133, c134, rfl, hr, hb⟩
      replace H := H.got hr hb
      clear hr hb
      refine ⟨_, rfl, ?_⟩
      refine hK.out _ _ ⟨H.cell m2 0, H.cell m2 1, H.cell m2 2, H.cell m2 3, H.cell m1 0, H.cell m1 1⟩ (fun hQ => ?_)
      clear hK K
      refine norm_ (a' := ?_) ?_ ?_
      rotate_left
      · show Act.put _ (some 34) _ = _
        simp only [Act.put, List.setIfInBounds_toArray, List.set_cons_zero, List.set_cons_succ, i64_w, i32_w]
        rfl
      refine two_ (i := 3) (j := 7) (Ni := some 36) (Nj := some 8) (bm 10 15) (bm 10 135) rfl rfl rfl rfl (two_of HT_.out (by kernel_rfl)) (by decide) (by decide) (fun K hK => ?_) (fun K hK => ?_)
      · skip
        refine goes_ Try.func63 (by kernel_rfl) rfl #[.agg #[.bool (ng c), .slice A133 (ln c) c134], .agg #[.bool (ng i), .slice A15 (ln i) c16]] (by rfl) rfl rfl (by simp only [List.map_toArray, List.map_cons, List.map_nil]; try rfl) ?_
        with_reducible refine (MakeQ (H.row _ m0) (H.row _ m4) (lim bc.out (by decide)) (lim bi.out (by decide)) c1 j2 0 hhi.out.1 hhi.out.2.1 hhi.out.2.2).mono ?_
        rintro e w155 ⟨A156, c157, A158, c159, rfl, hr, hr2, hb⟩
        replace H := (H.got hr hb).more ((H.got hr2 hb).row _ m0)
        clear hr hr2 hb
        refine ⟨_, rfl, ?_⟩
        refine hK.out _ _ ⟨H.cell m2 0, H.cell m2 1, H.cell m2 2, H.cell m2 3, H.cell m1 0, H.cell m1 1⟩ (fun hQ => ?_)
        clear hK K
        refine norm_ (a' := ?_) ?_ ?_
        rotate_left
        · show Act.put _ (some 36) _ = _
          simp only [Act.put, List.setIfInBounds_toArray, List.set_cons_zero, List.set_cons_succ, i64_w, i32_w]
          rfl
        refine pure_ (i := 4) (N := some 32) (v := ?_) (a' := ?_) (bm 10 31) rfl rfl (any_of HT_.out (by kernel_rfl)) (fun _ _ _ h => h) (Or.inl ⟨by rfl, ?_⟩) ?_ ?_
        rotate_left
        · intro w'
          go_simp
          with_reducible rfl
        rotate_left
        · simp only [Act.put, List.setIfInBounds_toArray, List.set_cons_zero, List.set_cons_succ, i64_w, i32_w]
          rfl
        refine pure_ (i := 5) (N := some 37) (v := ?_) (a' := ?_) (bm 10 63) rfl rfl (any_of HT_.out (by kernel_rfl)) (fun _ _ _ h => h) (Or.inl ⟨by rfl, ?_⟩) ?_ ?_
        rotate_left
        · intro w'
          go_simp
          with_reducible rfl
        rotate_left
        · simp only [Act.put, List.setIfInBounds_toArray, List.set_cons_zero, List.set_cons_succ, i64_w, i32_w]
          rfl
        refine pure_ (i := 6) (N := some 38) (v := ?_) (a' := ?_) (bm 10 127) rfl rfl (any_of HT_.out (by kernel_rfl)) (fun _ _ _ h => h) (Or.inl ⟨by rfl, ?_⟩) ?_ ?_
        rotate_left
        · intro w'
          go_simp
          with_reducible rfl
        rotate_left
        · simp only [Act.put, List.setIfInBounds_toArray, List.set_cons_zero, List.set_cons_succ, i64_w, i32_w]
          rfl
        refine one_ (i := 7) (N := some 8) (bm 10 255) rfl rfl (one_of HT_.out (by kernel_rfl)) (by decide) (fun K hK => ?_)
        refine value_ (w1 := ?_) (v := ?_) (by rfl) rfl ?_ ?_
        rotate_left 2
        · go_simp
          constructor
          · rfl
          · rfl
        replace H := H.newbox rfl (blk_new _ (.cells #[.bool false, .slice none 0 0, .bool false, .slice none 0 0] 51 (0, 0))) (below_alloc (Below.refl _ _) _)
        refine hK.out _ _ ⟨H.cell m3 0, H.cell m3 1, H.cell m3 2, H.cell m3 3, H.cell m2 0, H.cell m2 1⟩ (fun hQ => ?_)
        clear hK K
        refine norm_ (a' := ?_) ?_ ?_
        rotate_left
        · show Act.put _ (some 8) _ = _
          simp only [Act.put, List.setIfInBounds_toArray, List.set_cons_zero, List.set_cons_succ, i64_w, i32_w]
          rfl
        exact norm_ (by simp only [putAll, Act.put, List.setIfInBounds_toArray, List.set_cons_zero, List.set_cons_succ]; try rfl) (hCont ⟨A133, c134, A156, c157, A158, c159, _⟩ _ H)
      · skip
        refine value_ (w1 := ?_) (v := ?_) (by rfl) rfl ?_ ?_
        rotate_left 2
        · go_simp
          constructor
          · rfl
          · rfl
        replace H := H.newbox rfl (blk_new _ (.cells #[.bool false, .slice none 0 0, .bool false, .slice none 0 0] 51 (0, 0))) (below_alloc (Below.refl _ _) _)
        refine hK.out _ _ ⟨H.cell m3 0, H.cell m3 1, H.cell m3 2, H.cell m3 3, H.cell m2 0, H.cell m2 1⟩ (fun hQ => ?_)
        clear hK K
        refine norm_ (a' := ?_) ?_ ?_
        rotate_left
        · show Act.put _ (some 8) _ = _
          simp only [Act.put, List.setIfInBounds_toArray, List.set_cons_zero, List.set_cons_succ, i64_w, i32_w]
          rfl
        refine one_ (i := 3) (N := some 36) (bm 10 143) rfl rfl (one_of HT_.out (by kernel_rfl)) (by decide) (fun K hK => ?_)
        refine goes_ Try.func63 (by kernel_rfl) rfl #[.agg #[.bool (ng c), .slice A133 (ln c) c134], .agg #[.bool (ng i), .slice A15 (ln i) c16]] (by rfl) rfl rfl (by simp only [List.map_toArray, List.map_cons, List.map_nil]; try rfl) ?_
        with_reducible refine (MakeQ (H.row _ m0) (H.row _ m4) (lim bc.out (by decide)) (lim bi.out (by decide)) c1 j2 0 hhi.out.1 hhi.out.2.1 hhi.out.2.2).mono ?_
        rintro e w155 ⟨A156, c157, A158, c159, rfl, hr, hr2, hb⟩
        replace H := (H.got hr hb).more ((H.got hr2 hb).row _ m0)
        clear hr hr2 hb
        refine ⟨_, rfl, ?_⟩
        refine hK.out _ _ ⟨H.cell m3 0, H.cell m3 1, H.cell m3 2, H.cell m3 3, H.cell m2 0, H.cell m2 1⟩ (fun hQ => ?_)
        clear hK K
        refine norm_ (a' := ?_) ?_ ?_
        rotate_left
        · show Act.put _ (some 36) _ = _
          simp only [Act.put, List.setIfInBounds_toArray, List.set_cons_zero, List.set_cons_succ, i64_w, i32_w]
          rfl
        refine pure_ (i := 4) (N := some 32) (v := ?_) (a' := ?_) (bm 10 159) rfl rfl (any_of HT_.out (by kernel_rfl)) (fun _ _ _ h => h) (Or.inl ⟨by rfl, ?_⟩) ?_ ?_
        rotate_left
        · intro w'
          go_simp
          with_reducible rfl
        rotate_left
        · simp only [Act.put, List.setIfInBounds_toArray, List.set_cons_zero, List.set_cons_succ, i64_w, i32_w]
          rfl
        refine pure_ (i := 5) (N := some 37) (v := ?_) (a' := ?_) (bm 10 191) rfl rfl (any_of HT_.out (by kernel_rfl)) (fun _ _ _ h => h) (Or.inl ⟨by rfl, ?_⟩) ?_ ?_
        rotate_left
        · intro w'
          go_simp
          with_reducible rfl
        rotate_left
        · simp only [Act.put, List.setIfInBounds_toArray, List.set_cons_zero, List.set_cons_succ, i64_w, i32_w]
          rfl
        refine pure_ (i := 6) (N := some 38) (v := ?_) (a' := ?_) (bm 10 255) rfl rfl (any_of HT_.out (by kernel_rfl)) (fun _ _ _ h => h) (Or.inl ⟨by rfl, ?_⟩) ?_ ?_
        rotate_left
        · intro w'
          go_simp
          with_reducible rfl
        rotate_left
        · simp only [Act.put, List.setIfInBounds_toArray, List.set_cons_zero, List.set_cons_succ, i64_w, i32_w]
          rfl
        exact norm_ (by simp only [putAll, Act.put, List.setIfInBounds_toArray, List.set_cons_zero, List.set_cons_succ]; try rfl) (hCont ⟨A133, c134, A156, c157, A158, c159, _⟩ _ H)
    · skip
      refine value_ (w1 := ?_) (v := ?_) (by rfl) rfl ?_ ?_
      rotate_left 2
      · go_simp
        constructor
        · rfl
        · rfl
      replace H := H.newbox rfl (blk_new _ (.cells #[.bool false, .slice none 0 0, .bool false, .slice none 0 0] 51 (0, 0))) (below_alloc (Below.refl _ _) _)
      refine hK.out _ _ ⟨H.cell m3 0, H.cell m3 1, H.cell m3 2, H.cell m3 3, H.cell m2 0, H.cell m2 1⟩ (fun hQ => ?_)
      clear hK K
      refine norm_ (a' := ?_) ?_ ?_
      rotate_left
      · show Act.put _ (some 8) _ = _
        simp only [Act.put, List.setIfInBounds_toArray, List.set_cons_zero, List.set_cons_succ, i64_w, i32_w]
        rfl
      refine one_ (i := 1) (N := some 34) (bm 10 135) rfl rfl (one_of HT_.out (by kernel_rfl)) (by decide) (fun K hK => ?_)
      refine goes_ Try.func48 (by kernel_rfl) rfl #[.agg #[.bool (ng n), .slice A4 (ln n) c5, .bool (ng d), .slice A6 (ln d) c7]] (by rfl) rfl rfl (by simp only [List.map_toArray, List.map_cons, List.map_nil]; try rfl) ?_
      with_reducible refine (CeilR (H.row _ m5) (H.row _ m4) (limR bn.out (by decide)) (limR bd.out (by decide)) c hc.out).mono ?_
      rintro e w132 ⟨A133, c134, rfl, hr, hb⟩
      replace H := H.got hr hb
      clear hr hb
      refine ⟨_, rfl, ?_⟩
      refine hK.out _ _ ⟨H.cell m3 0, H.cell m3 1, H.cell m3 2, H.cell m3 3, H.cell m2 0, H.cell m2 1⟩ (fun hQ => ?_)
      clear hK K
      refine norm_ (a' := ?_) ?_ ?_
      rotate_left
      · show Act.put _ (some 34) _ = _
        simp only [Act.put, List.setIfInBounds_toArray, List.set_cons_zero, List.set_cons_succ, i64_w, i32_w]
        rfl
      refine one_ (i := 3) (N := some 36) (bm 10 143) rfl rfl (one_of HT_.out (by kernel_rfl)) (by decide) (fun K hK => ?_)
      refine goes_ Try.func63 (by kernel_rfl) rfl #[.agg #[.bool (ng c), .slice A133 (ln c) c134], .agg #[.bool (ng i), .slice A15 (ln i) c16]] (by rfl) rfl rfl (by simp only [List.map_toArray, List.map_cons, List.map_nil]; try rfl) ?_
      with_reducible refine (MakeQ (H.row _ m0) (H.row _ m4) (lim bc.out (by decide)) (lim bi.out (by decide)) c1 j2 0 hhi.out.1 hhi.out.2.1 hhi.out.2.2).mono ?_
      rintro e w155 ⟨A156, c157, A158, c159, rfl, hr, hr2, hb⟩
      replace H := (H.got hr hb).more ((H.got hr2 hb).row _ m0)
      clear hr hr2 hb
      refine ⟨_, rfl, ?_⟩
      refine hK.out _ _ ⟨H.cell m3 0, H.cell m3 1, H.cell m3 2, H.cell m3 3, H.cell m2 0, H.cell m2 1⟩ (fun hQ => ?_)
      clear hK K
      refine norm_ (a' := ?_) ?_ ?_
      rotate_left
      · show Act.put _ (some 36) _ = _
        simp only [Act.put, List.setIfInBounds_toArray, List.set_cons_zero, List.set_cons_succ, i64_w, i32_w]
        rfl
      refine pure_ (i := 4) (N := some 32) (v := ?_) (a' := ?_) (bm 10 159) rfl rfl (any_of HT_.out (by kernel_rfl)) (fun _ _ _ h => h) (Or.inl ⟨by rfl, ?_⟩) ?_ ?_
      rotate_left
      · intro w'
        go_simp
        with_reducible rfl
      rotate_left
      · simp only [Act.put, List.setIfInBounds_toArray, List.set_cons_zero, List.set_cons_succ, i64_w, i32_w]
        rfl
      refine pure_ (i := 5) (N := some 37) (v := ?_) (a' := ?_) (bm 10 191) rfl rfl (any_of HT_.out (by kernel_rfl)) (fun _ _ _ h => h) (Or.inl ⟨by rfl, ?_⟩) ?_ ?_
      rotate_left
      · intro w'
        go_simp
        with_reducible rfl
      rotate_left
      · simp only [Act.put, List.setIfInBounds_toArray, List.set_cons_zero, List.set_cons_succ, i64_w, i32_w]
        rfl
      refine pure_ (i := 6) (N := some 38) (v := ?_) (a' := ?_) (bm 10 255) rfl rfl (any_of HT_.out (by kernel_rfl)) (fun _ _ _ h => h) (Or.inl ⟨by rfl, ?_⟩) ?_ ?_
      rotate_left
      · intro w'
        go_simp
        with_reducible rfl
      rotate_left
      · simp only [Act.put, List.setIfInBounds_toArray, List.set_cons_zero, List.set_cons_succ, i64_w, i32_w]
        rfl
      exact norm_ (by simp only [putAll, Act.put, List.setIfInBounds_toArray, List.set_cons_zero, List.set_cons_succ]; try rfl) (hCont ⟨A133, c134, A156, c157, A158, c159, _⟩ _ H)
  rintro ⟨A133, c134, A156, c157, A158, c159, g8⟩ wF H
  clear hQ
  have hQ := (show wF.cell? ⟨g3, 0, none⟩ = some (.bool (ng n)) ∧ wF.cell? ⟨g3, 1, none⟩ = some (.slice A4 (ln n) c5) ∧ wF.cell? ⟨g3, 2, none⟩ = some (.bool (ng d)) ∧ wF.cell? ⟨g3, 3, none⟩ = some (.slice A6 (ln d) c7) ∧ wF.cell? ⟨g5, 0, none⟩ = some (.bool (ng i)) ∧ wF.cell? ⟨g5, 1, none⟩ = some (.slice A15 (ln i) c16) from ⟨H.cell m3 0, H.cell m3 1, H.cell m3 2, H.cell m3 3, H.cell m2 0, H.cell m2 1⟩)
  refine norm_ (a' := ?_) ?_ ?_
  rotate_left
  · simp only [putAll, Act.put, List.setIfInBounds_toArray, List.set_cons_zero, List.set_cons_succ]
    rfl
  refine last_ (i := 8) (N := none) (bm 10 511) rfl rfl (one_of HT_.out (by kernel_rfl)) (by decide) (fun K hK => ?_)
  obtain ⟨k8_0, z8_0, k8_1, z8_1, k8_2, z8_2, k8_3, z8_3⟩ := H.b4 (g := g8) m0
  obtain ⟨k5_0, z5_0, k5_1, z5_1⟩ := H.b2 (g := g5) m2
  obtain ⟨k3_0, z3_0, k3_1, z3_1, k3_2, z3_2, k3_3, z3_3⟩ := H.b4 (g := g3) m3
  refine skip_ (w1 := ?_) (by rfl) rfl ?_ ?_
  rotate_left
  · go_simp
    rfl
  refine hK.out _ _ ?_
  clear hK K
  refine pure_ (i := 9) (N := some 9) (v := ?_) (a' := ?_) (bm 10 1023) rfl rfl (any_of HT_.out (by kernel_rfl)) (fun _ _ _ h => h) (Or.inl ⟨by rfl, ?_⟩) ?_ ?_
  rotate_left
  · intro w'
    go_simp
    with_reducible rfl
  rotate_left
  · simp only [Act.put, List.setIfInBounds_toArray, List.set_cons_zero, List.set_cons_succ, i64_w, i32_w]
    rfl
  refine done_ (done_of HT_.out (by kernel_rfl)) ?_
  try clear hQ
  replace H := ((((H.setn [] 0 (.bool (ng c1)) rfl).setn [] 1 (.slice A156 (ln c1) c157) rfl).setn [] 2 (.bool (ng j2)) rfl).setn [] 3 (.slice A158 (ln j2) c159) rfl)
  clear k8_0 z8_0 k8_1 z8_1 k8_2 z8_2 k8_3 z8_3 k5_0 z5_0 k5_1 z5_1 k3_0 z3_0 k3_1 z3_1 k3_2 z3_2 k3_3 z3_3
  generalize ((((wF.setCell ⟨g8, 0, none⟩ (.bool (ng c1))).setCell ⟨g8, 1, none⟩ (.slice A156 (ln c1) c157)).setCell ⟨g8, 2, none⟩ (.bool (ng j2))).setCell ⟨g8, 3, none⟩ (.slice A158 (ln j2) c159)) = w200 at H ⊢
  obtain ⟨k8_0, z8_0, k8_1, z8_1, k8_2, z8_2, k8_3, z8_3⟩ := H.b4 (g := g8) m0
  obtain ⟨k6_0, z6_0, k6_1, z6_1, k6_2, z6_2, k6_3, z6_3⟩ := H.b4 (g := g6) m1
  obtain ⟨k5_0, z5_0, k5_1, z5_1⟩ := H.b2 (g := g5) m2
  obtain ⟨k3_0, z3_0, k3_1, z3_1, k3_2, z3_2, k3_3, z3_3⟩ := H.b4 (g := g3) m3
  go_upto_region 9 with fail
  (try simp only [Act.put, List.setIfInBounds_toArray, List.set_cons_zero, List.set_cons_succ])
  clear k8_0 z8_0 k8_1 z8_1 k8_2 z8_2 k8_3 z8_3 k6_0 z6_0 k6_1 z6_1 k6_2 z6_2 k6_3 z6_3 k5_0 z5_0 k5_1 z5_1 k3_0 z3_0 k3_1 z3_1 k3_2 z3_2 k3_3 z3_3
  replace H := H.drew
  refine start_ (n := 28) (S := fun w' => w'.cell? ⟨g6, 0, none⟩ = some (.bool (ng f1)) ∧ w'.cell? ⟨g6, 1, none⟩ = some (.slice A66 (ln f1) c67) ∧ w'.cell? ⟨g6, 2, none⟩ = some (.bool (ng j1)) ∧ w'.cell? ⟨g6, 3, none⟩ = some (.slice A68 (ln j1) c69) ∧ w'.cell? ⟨g3, 0, none⟩ = some (.bool (ng n)) ∧ w'.cell? ⟨g3, 1, none⟩ = some (.slice A4 (ln n) c5) ∧ w'.cell? ⟨g3, 2, none⟩ = some (.bool (ng d)) ∧ w'.cell? ⟨g3, 3, none⟩ = some (.slice A6 (ln d) c7) ∧ w'.cell? ⟨g8, 0, none⟩ = some (.bool (ng c1)) ∧ w'.cell? ⟨g8, 1, none⟩ = some (.slice A156 (ln c1) c157) ∧ w'.cell? ⟨g8, 2, none⟩ = some (.bool (ng j2)) ∧ w'.cell? ⟨g8, 3, none⟩ = some (.slice A158 (ln j2) c159)) (ds := []) #[false, false, false, false, false, false, false, false, false, false, false, false, false, false, false, false, false, false, false, false, false, false, false, false, false, false, false, false] (by kernel_rfl) rfl rfl ⟨H.cell m1 0, H.cell m1 1, H.cell m1 2, H.cell m1 3, H.cell m3 0, H.cell m3 1, H.cell m3 2, H.cell m3 3, H.cell m0 0, H.cell m0 1, H.cell m0 2, H.cell m0 3⟩ (fun hQ => ?_)
  generalize w200.drew = w201 at H hQ ⊢
  refine with_tabW tb18.tab9 tb18.bits9 (fun HT_ HW_ => ?_)
  refine pure_ (i := 0) (N := some 39) (v := ?_) (a' := ?_) (bm 28 1) rfl rfl (any_of HT_.out (by kernel_rfl)) (fun _ _ _ h => h) (Or.inl ⟨by rfl, ?_⟩) ?_ ?_
  rotate_left
  · intro w'
    go_simp
    with_reducible rfl
  rotate_left
  · simp only [Act.put, List.setIfInBounds_toArray, List.set_cons_zero, List.set_cons_succ, i64_w, i32_w]
    rfl
  refine pure_ (i := 1) (N := some 40) (v := ?_) (a' := ?_) (bm 28 3) rfl rfl (any_of HT_.out (by kernel_rfl)) (fun _ _ _ h => h) (Or.inl ⟨by rfl, ?_⟩) ?_ ?_
  rotate_left
  · intro w'
    go_simp
    with_reducible rfl
  rotate_left
  · simp only [Act.put, List.setIfInBounds_toArray, List.set_cons_zero, List.set_cons_succ, i64_w, i32_w]
    rfl
  refine pure_ (i := 2) (N := some 41) (v := ?_) (a' := ?_) (bm 28 7) rfl rfl (any_of HT_.out (by kernel_rfl)) (fun _ _ _ h => h) (Or.inl ⟨by rfl, ?_⟩) ?_ ?_
  rotate_left
  · intro w'
    go_simp
    with_reducible rfl
  rotate_left
  · simp only [Act.put, List.setIfInBounds_toArray, List.set_cons_zero, List.set_cons_succ, i64_w, i32_w]
    rfl
  refine pure_ (i := 3) (N := some 42) (v := ?_) (a' := ?_) (bm 28 15) rfl rfl (any_of HT_.out (by kernel_rfl)) (fun _ _ _ h => h) (Or.inl ⟨by rfl, ?_⟩) ?_ ?_
  rotate_left
  · intro w'
    go_simp
    with_reducible rfl
  rotate_left
  · simp only [Act.put, List.setIfInBounds_toArray, List.set_cons_zero, List.set_cons_succ, i64_w, i32_w]
    rfl
  refine pure_ (i := 4) (N := some 43) (v := ?_) (a' := ?_) (bm 28 31) rfl rfl (any_of HT_.out (by kernel_rfl)) (fun _ _ _ h => h) (Or.inl ⟨by rfl, ?_⟩) ?_ ?_
  rotate_left
  · intro w'
    go_simp
    with_reducible rfl
  rotate_left
  · simp only [Act.put, List.setIfInBounds_toArray, List.set_cons_zero, List.set_cons_succ, i64_w, i32_w]
    rfl
  refine pure_ (i := 5) (N := some 44) (v := ?_) (a' := ?_) (bm 28 63) rfl rfl (any_of HT_.out (by kernel_rfl)) (fun _ _ _ h => h) (Or.inl ⟨by rfl, ?_⟩) ?_ ?_
  rotate_left
  · intro w'
    go_simp
    with_reducible rfl
  rotate_left
  · simp only [Act.put, List.setIfInBounds_toArray, List.set_cons_zero, List.set_cons_succ, i64_w, i32_w]
    rfl
  refine pure_ (i := 6) (N := some 45) (v := ?_) (a' := ?_) (bm 28 127) rfl rfl (any_of HT_.out (by kernel_rfl)) (fun _ _ _ h => h) (Or.inl ⟨by rfl, ?_⟩) ?_ ?_
  rotate_left
  · intro w'
    go_simp
    with_reducible rfl
  rotate_left
  · simp only [Act.put, List.setIfInBounds_toArray, List.set_cons_zero, List.set_cons_succ, i64_w, i32_w]
    rfl
  refine take_ (i := 7) (N := some 46) (v := ?_) (a' := ?_) (bm 28 255) rfl rfl (take_ofW HT_.out HW_.out (by kernel_rfl)) (fun _ _ _ h => h) (Or.inl ⟨by rfl, ?_⟩) hQ ?_ ?_
  rotate_left
  · rintro w' ⟨s0, s1, s2, s3, s4, s5, s6, s7, s8, s9, s10, s11⟩
    go_simp
    with_reducible rfl
  rotate_left
  · simp only [Act.put, List.setIfInBounds_toArray, List.set_cons_zero, List.set_cons_succ, i64_w, i32_w]
    rfl
  refine take_ (i := 8) (N := some 47) (v := ?_) (a' := ?_) (bm 28 511) rfl rfl (take_ofW HT_.out HW_.out (by kernel_rfl)) (fun _ _ _ h => h) (Or.inl ⟨by rfl, ?_⟩) hQ ?_ ?_
  rotate_left
  · rintro w' ⟨s0, s1, s2, s3, s4, s5, s6, s7, s8, s9, s10, s11⟩
    go_simp
    with_reducible rfl
  rotate_left
  · simp only [Act.put, List.setIfInBounds_toArray, List.set_cons_zero, List.set_cons_succ, i64_w, i32_w]
    rfl
  refine one_ (i := 9) (N := some 48) (bm 28 1023) rfl rfl (one_of HT_.out (by kernel_rfl)) (by decide) (fun K hK => ?_)
  refine goes_ Try.func66 (by kernel_rfl) rfl #[.agg #[.bool (ng f1), .slice A66 (ln f1) c67, .bool (ng j1), .slice A68 (ln j1) c69], .agg #[.bool (ng n), .slice A4 (ln n) c5, .bool (ng d), .slice A6 (ln d) c7]] (by rfl) rfl rfl (by simp only [List.map_toArray, List.map_cons, List.map_nil]; try rfl) ?_
  with_reducible refine (CmpR (H.row _ m4) (H.row _ m3) (H.row _ m8) (H.row _ m7) (limR bf1.out (by decide)) (limR bj1.out (by decide)) (limR bn.out (by decide)) (limR bd.out (by decide)) k1 hk1.out).mono ?_
  rintro e w202 ⟨rfl, hb⟩
  replace H := H.call hb
  clear hb
  refine ⟨_, rfl, ?_⟩
  refine hK.out _ _ ⟨H.cell m1 0, H.cell m1 1, H.cell m1 2, H.cell m1 3, H.cell m3 0, H.cell m3 1, H.cell m3 2, H.cell m3 3, H.cell m0 0, H.cell m0 1, H.cell m0 2, H.cell m0 3⟩ (fun hQ => ?_)
  clear hK K
  refine norm_ (a' := ?_) ?_ ?_
  rotate_left
  · show Act.put _ (some 48) _ = _
    simp only [Act.put, List.setIfInBounds_toArray, List.set_cons_zero, List.set_cons_succ, i64_w, i32_w]
    rfl
  refine pure_ (i := 10) (N := some 49) (v := ?_) (a' := ?_) (bm 28 2047) rfl rfl (any_of HT_.out (by kernel_rfl)) (fun _ _ _ h => h) (Or.inl ⟨by rfl, ?_⟩) ?_ ?_
  rotate_left
  · intro w'
    go_simp
    with_reducible rfl
  rotate_left
  · simp only [Act.put, List.setIfInBounds_toArray, List.set_cons_zero, List.set_cons_succ, i64_w, i32_w]
    rfl
  refine pure_ (i := 11) (N := some 50) (v := ?_) (a' := ?_) (bm 28 4095) rfl rfl (any_of HT_.out (by kernel_rfl)) (fun _ _ _ h => h) (Or.inl ⟨by rfl, ?_⟩) ?_ ?_
  rotate_left
  · intro w'
    go_simp
    with_reducible rfl
  rotate_left
  · simp only [Act.put, List.setIfInBounds_toArray, List.set_cons_zero, List.set_cons_succ, i64_w, i32_w]
    rfl
  refine pure_ (i := 12) (N := some 51) (v := ?_) (a' := ?_) (bm 28 8191) rfl rfl (any_of HT_.out (by kernel_rfl)) (fun _ _ _ h => h) (Or.inl ⟨by rfl, ?_⟩) ?_ ?_
  rotate_left
  · intro w'
    go_simp
    with_reducible rfl
  rotate_left
  · simp only [Act.put, List.setIfInBounds_toArray, List.set_cons_zero, List.set_cons_succ, i64_w, i32_w]
    rfl
  refine take_ (i := 13) (N := some 52) (v := ?_) (a' := ?_) (bm 28 16383) rfl rfl (take_ofW HT_.out HW_.out (by kernel_rfl)) (fun _ _ _ h => h) (Or.inl ⟨by rfl, ?_⟩) hQ ?_ ?_
  rotate_left
  · rintro w' ⟨s0, s1, s2, s3, s4, s5, s6, s7, s8, s9, s10, s11⟩
    go_simp
    with_reducible rfl
  rotate_left
  · simp only [Act.put, List.setIfInBounds_toArray, List.set_cons_zero, List.set_cons_succ, i64_w, i32_w]
    rfl
  refine take_ (i := 14) (N := some 53) (v := ?_) (a' := ?_) (bm 28 32767) rfl rfl (take_ofW HT_.out HW_.out (by kernel_rfl)) (fun _ _ _ h => h) (Or.inl ⟨by rfl, ?_⟩) hQ ?_ ?_
  rotate_left
  · rintro w' ⟨s0, s1, s2, s3, s4, s5, s6, s7, s8, s9, s10, s11⟩
    go_simp
    with_reducible rfl
  rotate_left
  · simp only [Act.put, List.setIfInBounds_toArray, List.set_cons_zero, List.set_cons_succ, i64_w, i32_w]
    rfl
  refine one_ (i := 15) (N := some 54) (bm 28 65535) rfl rfl (one_of HT_.out (by kernel_rfl)) (by decide) (fun K hK => ?_)
  refine goes_ Try.func66 (by kernel_rfl) rfl #[.agg #[.bool (ng c1), .slice A156 (ln c1) c157, .bool (ng j2), .slice A158 (ln j2) c159], .agg #[.bool (ng n), .slice A4 (ln n) c5, .bool (ng d), .slice A6 (ln d) c7]] (by rfl) rfl rfl (by simp only [List.map_toArray, List.map_cons, List.map_nil]; try rfl) ?_
  with_reducible refine (CmpR (H.row _ m1) (H.row _ m0) (H.row _ m8) (H.row _ m7) (limR bc1.out (by decide)) (limR bj2.out (by decide)) (limR bn.out (by decide)) (limR bd.out (by decide)) k2 hk2.out).mono ?_
  rintro e w203 ⟨rfl, hb⟩
  replace H := H.call hb
  clear hb
  refine ⟨_, rfl, ?_⟩
  refine hK.out _ _ ⟨H.cell m1 0, H.cell m1 1, H.cell m1 2, H.cell m1 3, H.cell m3 0, H.cell m3 1, H.cell m3 2, H.cell m3 3, H.cell m0 0, H.cell m0 1, H.cell m0 2, H.cell m0 3⟩ (fun hQ => ?_)
  clear hK K
  refine norm_ (a' := ?_) ?_ ?_
  rotate_left
  · show Act.put _ (some 54) _ = _
    simp only [Act.put, List.setIfInBounds_toArray, List.set_cons_zero, List.set_cons_succ, i64_w, i32_w]
    rfl
  refine pure_ (i := 16) (N := some 55) (v := ?_) (a' := ?_) (bm 28 131071) rfl rfl (any_of HT_.out (by kernel_rfl)) (fun _ _ _ h => h) (Or.inl ⟨by rfl, ?_⟩) ?_ ?_
  rotate_left
  · intro w'
    go_simp
    with_reducible rfl
  rotate_left
  · simp only [Act.put, List.setIfInBounds_toArray, List.set_cons_zero, List.set_cons_succ, i64_w, i32_w]
    rfl
  refine pure_ (i := 17) (N := some 56) (v := ?_) (a' := ?_) (bm 28 262143) rfl rfl (any_of HT_.out (by kernel_rfl)) (fun _ _ _ h => h) (Or.inl ⟨by rfl, ?_⟩) ?_ ?_
  rotate_left
  · intro w'
    go_simp
    with_reducible rfl
  rotate_left
  · simp only [Act.put, List.setIfInBounds_toArray, List.set_cons_zero, List.set_cons_succ, i64_w, i32_w]
    rfl
  refine pure_ (i := 18) (N := some 57) (v := ?_) (a' := ?_) (bm 28 524287) rfl rfl (any_of HT_.out (by kernel_rfl)) (fun _ _ _ h => h) (Or.inl ⟨by rfl, ?_⟩) ?_ ?_
  rotate_left
  · intro w'
    go_simp
    with_reducible rfl
  rotate_left
  · simp only [Act.put, List.setIfInBounds_toArray, List.set_cons_zero, List.set_cons_succ, i64_w, i32_w]
    rfl
  refine take_ (i := 19) (N := some 58) (v := ?_) (a' := ?_) (bm 28 1048575) rfl rfl (take_ofW HT_.out HW_.out (by kernel_rfl)) (fun _ _ _ h => h) (Or.inl ⟨by rfl, ?_⟩) hQ ?_ ?_
  rotate_left
  · rintro w' ⟨s0, s1, s2, s3, s4, s5, s6, s7, s8, s9, s10, s11⟩
    go_simp
    with_reducible rfl
  rotate_left
  · simp only [Act.put, List.setIfInBounds_toArray, List.set_cons_zero, List.set_cons_succ, i64_w, i32_w]
    rfl
  refine take_ (i := 23) (N := some 62) (v := ?_) (a' := ?_) (bm 28 9437183) rfl rfl (take_ofW HT_.out HW_.out (by kernel_rfl)) (fun _ _ _ h => h) (Or.inl ⟨by rfl, ?_⟩) hQ ?_ ?_
  rotate_left
  · rintro w' ⟨s0, s1, s2, s3, s4, s5, s6, s7, s8, s9, s10, s11⟩
    go_simp
    with_reducible rfl
  rotate_left
  · simp only [Act.put, List.setIfInBounds_toArray, List.set_cons_zero, List.set_cons_succ, i64_w, i32_w]
    rfl
  refine one_ (i := 20) (N := some 59) (bm 28 10485759) rfl rfl (one_of HT_.out (by kernel_rfl)) (by decide) (fun K hK => ?_)
  refine goes_ Try.func51 (by kernel_rfl) rfl #[.agg #[.bool (ng n), .slice A4 (ln n) c5, .bool (ng d), .slice A6 (ln d) c7]] (by rfl) rfl rfl (by simp only [List.map_toArray, List.map_cons, List.map_nil]; try rfl) ?_
  with_reducible refine (NegR (H.row _ m8) (H.row _ m7) (limR bn.out (by decide)) (limR bd.out (by decide)) n2 d9 ⟨hn2.out, hd9.out⟩).mono ?_
  rintro e w204 ⟨A205, c206, A207, c208, rfl, hr, hr2, hb⟩
  replace H := (H.got hr hb).more ((H.got hr2 hb).row _ m0)
  clear hr hr2 hb
  refine ⟨_, rfl, ?_⟩
  refine hK.out _ _ ⟨H.cell m1 0, H.cell m1 1, H.cell m1 2, H.cell m1 3, H.cell m3 0, H.cell m3 1, H.cell m3 2, H.cell m3 3, H.cell m0 0, H.cell m0 1, H.cell m0 2, H.cell m0 3⟩ (fun hQ => ?_)
  clear hK K
  refine norm_ (a' := ?_) ?_ ?_
  rotate_left
  · show Act.put _ (some 59) _ = _
    simp only [Act.put, List.setIfInBounds_toArray, List.set_cons_zero, List.set_cons_succ, i64_w, i32_w]
    rfl
  refine one_ (i := 21) (N := some 60) (bm 28 12582911) rfl rfl (one_of HT_.out (by kernel_rfl)) (by decide) (fun K hK => ?_)
  refine goes_ Try.func43 (by kernel_rfl) rfl #[.agg #[.bool (ng n2), .slice A205 (ln n2) c206, .bool (ng d9), .slice A207 (ln d9) c208]] (by rfl) rfl rfl (by simp only [List.map_toArray, List.map_cons, List.map_nil]; try rfl) ?_
  with_reducible refine (FloorR (H.row _ m1) (H.row _ m0) (limR bn2.out (by decide)) (limR bd9.out (by decide)) f2 hf2.out).mono ?_
  rintro e w209 ⟨A210, c211, rfl, hr, hb⟩
  replace H := H.got hr hb
  clear hr hb
  refine ⟨_, rfl, ?_⟩
  refine hK.out _ _ ⟨H.cell m1 0, H.cell m1 1, H.cell m1 2, H.cell m1 3, H.cell m3 0, H.cell m3 1, H.cell m3 2, H.cell m3 3, H.cell m0 0, H.cell m0 1, H.cell m0 2, H.cell m0 3⟩ (fun hQ => ?_)
  clear hK K
  refine norm_ (a' := ?_) ?_ ?_
  rotate_left
  · show Act.put _ (some 60) _ = _
    simp only [Act.put, List.setIfInBounds_toArray, List.set_cons_zero, List.set_cons_succ, i64_w, i32_w]
    rfl
  refine one_ (i := 22) (N := some 61) (bm 28 16777215) rfl rfl (one_of HT_.out (by kernel_rfl)) (by decide) (fun K hK => ?_)
  refine goes_ Try.func37 (by kernel_rfl) rfl #[.agg #[.bool (ng f2), .slice A210 (ln f2) c211]] (by rfl) rfl rfl (by simp only [List.map_toArray, List.map_cons, List.map_nil]; try rfl) ?_
  with_reducible refine (NegQ (H.row _ m0) (lim bf2.out (by decide)) c2 h_c2.out).mono ?_
  rintro e w212 ⟨A213, c214, rfl, hr, hb⟩
  replace H := H.got hr hb
  clear hr hb
  refine ⟨_, rfl, ?_⟩
  refine hK.out _ _ ⟨H.cell m1 0, H.cell m1 1, H.cell m1 2, H.cell m1 3, H.cell m3 0, H.cell m3 1, H.cell m3 2, H.cell m3 3, H.cell m0 0, H.cell m0 1, H.cell m0 2, H.cell m0 3⟩ (fun hQ => ?_)
  clear hK K
  refine norm_ (a' := ?_) ?_ ?_
  rotate_left
  · show Act.put _ (some 61) _ = _
    simp only [Act.put, List.setIfInBounds_toArray, List.set_cons_zero, List.set_cons_succ, i64_w, i32_w]
    rfl
  refine one_ (i := 24) (N := some 63) (bm 28 33554431) rfl rfl (one_of HT_.out (by kernel_rfl)) (by decide) (fun K hK => ?_)
  refine goes_ Try.func48 (by kernel_rfl) rfl #[.agg #[.bool (ng n), .slice A4 (ln n) c5, .bool (ng d), .slice A6 (ln d) c7]] (by rfl) rfl rfl (by simp only [List.map_toArray, List.map_cons, List.map_nil]; try rfl) ?_
  with_reducible refine (CeilR (H.row _ (mt (mt m10))) (H.row _ (mt m10)) (limR bn.out (by decide)) (limR bd.out (by decide)) c hc.out).mono ?_
  rintro e w215 ⟨A216, c217, rfl, hr, hb⟩
  replace H := H.got hr hb
  clear hr hb
  refine ⟨_, rfl, ?_⟩
  refine hK.out _ _ ⟨H.cell m1 0, H.cell m1 1, H.cell m1 2, H.cell m1 3, H.cell m3 0, H.cell m3 1, H.cell m3 2, H.cell m3 3, H.cell m0 0, H.cell m0 1, H.cell m0 2, H.cell m0 3⟩ (fun hQ => ?_)
  clear hK K
  refine norm_ (a' := ?_) ?_ ?_
  rotate_left
  · show Act.put _ (some 63) _ = _
    simp only [Act.put, List.setIfInBounds_toArray, List.set_cons_zero, List.set_cons_succ, i64_w, i32_w]
    rfl
  refine one_ (i := 25) (N := some 64) (bm 28 67108863) rfl rfl (one_of HT_.out (by kernel_rfl)) (by decide) (fun K hK => ?_)
  refine goes_ Try.func34 (by kernel_rfl) rfl #[.agg #[.bool (ng c2), .slice A213 (ln c2) c214], .agg #[.bool (ng c), .slice A216 (ln c) c217]] (by rfl) rfl rfl (by simp only [List.map_toArray, List.map_cons, List.map_nil]; try rfl) ?_
  with_reducible refine (CmpQ (H.row _ m1) (H.row _ m0) (lim bc2.out (by decide)) (lim bc.out (by decide)) 0 hk3.out).mono ?_
  rintro e w218 ⟨rfl, hb⟩
  replace H := H.call hb
  clear hb
  refine ⟨_, rfl, ?_⟩
  refine hK.out _ _ ⟨H.cell m1 0, H.cell m1 1, H.cell m1 2, H.cell m1 3, H.cell m3 0, H.cell m3 1, H.cell m3 2, H.cell m3 3, H.cell m0 0, H.cell m0 1, H.cell m0 2, H.cell m0 3⟩ (fun hQ => ?_)
  clear hK K
  refine norm_ (a' := ?_) ?_ ?_
  rotate_left
  · show Act.put _ (some 64) _ = _
    simp only [Act.put, List.setIfInBounds_toArray, List.set_cons_zero, List.set_cons_succ, i64_w, i32_w]
    rfl
  refine pure_ (i := 26) (N := some 65) (v := ?_) (a' := ?_) (bm 28 134217727) rfl rfl (any_of HT_.out (by kernel_rfl)) (fun _ _ _ h => h) (Or.inl ⟨by rfl, ?_⟩) ?_ ?_
  rotate_left
  · intro w'
    go_simp
    with_reducible rfl
  rotate_left
  · simp only [Act.put, List.setIfInBounds_toArray, List.set_cons_zero, List.set_cons_succ, i64_w, i32_w]
    rfl
  refine pure_ (i := 27) (N := some 66) (v := ?_) (a' := ?_) (bm 28 268435455) rfl rfl (any_of HT_.out (by kernel_rfl)) (fun _ _ _ h => h) (Or.inl ⟨by rfl, ?_⟩) ?_ ?_
  rotate_left
  · intro w'
    go_simp
    with_reducible rfl
  rotate_left
  · simp only [Act.put, List.setIfInBounds_toArray, List.set_cons_zero, List.set_cons_succ, i64_w, i32_w]
    rfl
  refine done_ (done_of HT_.out (by kernel_rfl)) ?_
  try clear hQ
  go_upto_region 11 with fail
  (try simp only [Act.put, List.setIfInBounds_toArray, List.set_cons_zero, List.set_cons_succ])
  replace H := H.drew
  refine start_ (n := 6) (S := fun w' => w'.cell? ⟨g3, 0, none⟩ = some (.bool (ng n)) ∧ w'.cell? ⟨g3, 1, none⟩ = some (.slice A4 (ln n) c5) ∧ w'.cell? ⟨g3, 2, none⟩ = some (.bool (ng d)) ∧ w'.cell? ⟨g3, 3, none⟩ = some (.slice A6 (ln d) c7) ∧ w'.cell? ⟨g5, 0, none⟩ = some (.bool (ng i)) ∧ w'.cell? ⟨g5, 1, none⟩ = some (.slice A15 (ln i) c16)) (ds := []) #[false, false, false, false, false, false] (by kernel_rfl) rfl rfl ⟨H.cell m3 0, H.cell m3 1, H.cell m3 2, H.cell m3 3, H.cell m2 0, H.cell m2 1⟩ (fun hQ => ?_)
  generalize w218.drew = w219 at H hQ ⊢
  refine take_ (i := 0) (N := some 67) (v := ?_) (a' := ?_) #[true, false, false, false, false, false] rfl rfl (by kernel_rfl) (fun _ _ _ h => h) (Or.inl ⟨by rfl, ?_⟩) hQ ?_ ?_
  rotate_left
  · rintro w' ⟨s0, s1, s2, s3, s4, s5⟩
    go_simp
    with_reducible rfl
  rotate_left
  · simp only [Act.put, List.setIfInBounds_toArray, List.set_cons_zero, List.set_cons_succ, i64_w, i32_w]
    rfl
  refine take_ (i := 2) (N := some 69) (v := ?_) (a' := ?_) #[true, false, true, false, false, false] rfl rfl (by kernel_rfl) (fun _ _ _ h => h) (Or.inl ⟨by rfl, ?_⟩) hQ ?_ ?_
  rotate_left
  · rintro w' ⟨s0, s1, s2, s3, s4, s5⟩
    go_simp
    with_reducible rfl
  rotate_left
  · simp only [Act.put, List.setIfInBounds_toArray, List.set_cons_zero, List.set_cons_succ, i64_w, i32_w]
    rfl
  refine one_ (i := 1) (N := some 68) #[true, true, true, false, false, false] rfl rfl (by kernel_rfl) (by decide) (fun K hK => ?_)
  refine goes_ Try.func47 (by kernel_rfl) rfl #[.agg #[.bool (ng n), .slice A4 (ln n) c5, .bool (ng d), .slice A6 (ln d) c7]] (by rfl) rfl rfl (by simp only [List.map_toArray, List.map_cons, List.map_nil]; try rfl) ?_
  with_reducible refine (DenQ (H.row _ (mt (mt (mt m10)))) (H.row _ (mt (mt m10))) (limR bn.out (by decide)) (limR bd.out (by decide)) e1 he1.out).mono ?_
  rintro e w220 ⟨A221, c222, rfl, hr, hb⟩
  replace H := H.got hr hb
  clear hr hb
  refine ⟨_, rfl, ?_⟩
  refine hK.out _ _ ⟨H.cell m3 0, H.cell m3 1, H.cell m3 2, H.cell m3 3, H.cell m2 0, H.cell m2 1⟩ (fun hQ => ?_)
  clear hK K
  refine norm_ (a' := ?_) ?_ ?_
  rotate_left
  · show Act.put _ (some 68) _ = _
    simp only [Act.put, List.setIfInBounds_toArray, List.set_cons_zero, List.set_cons_succ, i64_w, i32_w]
    rfl
  refine one_ (i := 3) (N := some 70) #[true, true, true, true, false, false] rfl rfl (by kernel_rfl) (by decide) (fun K hK => ?_)
  refine goes_ Try.func34 (by kernel_rfl) rfl #[.agg #[.bool (ng e1), .slice A221 (ln e1) c222], .agg #[.bool (ng i), .slice A15 (ln i) c16]] (by rfl) rfl rfl (by simp only [List.map_toArray, List.map_cons, List.map_nil]; try rfl) ?_
  with_reducible refine (CmpQ (H.row _ m0) (H.row _ (mt (mt m10))) (lim be1.out (by decide)) (lim bi.out (by decide)) 0 hk4.out).mono ?_
  rintro e w223 ⟨rfl, hb⟩
  replace H := H.call hb
  clear hb
  refine ⟨_, rfl, ?_⟩
  refine hK.out _ _ ⟨H.cell m3 0, H.cell m3 1, H.cell m3 2, H.cell m3 3, H.cell m2 0, H.cell m2 1⟩ (fun hQ => ?_)
  clear hK K
  refine norm_ (a' := ?_) ?_ ?_
  rotate_left
  · show Act.put _ (some 70) _ = _
    simp only [Act.put, List.setIfInBounds_toArray, List.set_cons_zero, List.set_cons_succ, i64_w, i32_w]
    rfl
  refine pure_ (i := 4) (N := some 71) (v := ?_) (a' := ?_) #[true, true, true, true, true, false] rfl rfl (by kernel_rfl) (fun _ _ _ h => h) (Or.inl ⟨by rfl, ?_⟩) ?_ ?_
  rotate_left
  · intro w'
    go_simp
    with_reducible rfl
  rotate_left
  · simp only [Act.put, List.setIfInBounds_toArray, List.set_cons_zero, List.set_cons_succ, i64_w, i32_w]
    rfl
  refine pure_ (i := 5) (N := some 10) (v := ?_) (a' := ?_) #[true, true, true, true, true, true] rfl rfl (by kernel_rfl) (fun _ _ _ h => h) (Or.inl ⟨by rfl, ?_⟩) ?_ ?_
  rotate_left
  · intro w'
    go_simp
    with_reducible rfl
  rotate_left
  · simp only [Act.put, List.setIfInBounds_toArray, List.set_cons_zero, List.set_cons_succ, i64_w, i32_w]
    rfl
  refine done_ (by kernel_rfl) ?_
  try clear hQ
  obtain ⟨k8_0, z8_0, k8_1, z8_1, k8_2, z8_2, k8_3, z8_3⟩ := H.b4 (g := g8) m0
  obtain ⟨k6_0, z6_0, k6_1, z6_1, k6_2, z6_2, k6_3, z6_3⟩ := H.b4 (g := g6) m1
  obtain ⟨k5_0, z5_0, k5_1, z5_1⟩ := H.b2 (g := g5) m2
  obtain ⟨k3_0, z3_0, k3_1, z3_1, k3_2, z3_2, k3_3, z3_3⟩ := H.b4 (g := g3) m3
  have st229 := trivial
  have st235 := trivial
  have st238 := trivial
  go_wp2_with (first
    | (clear st229; go_at_call 53; (with_reducible refine (SubR (H.row _ m7) (H.row _ m6) (H.row _ m10) (H.row _ m9) (limR bc1.out (by decide)) (limR bj2.out (by decide)) (limR bf1.out (by decide)) (limR bj1.out (by decide)) u v hu.out).mono ?_); rintro e w224 ⟨A225, c226, A227, c228, rfl, hr, hr2, hb⟩; replace H := (H.got hr hb).more ((H.got hr2 hb).row _ m0); clear hr hr2 hb; clear k8_0 z8_0 k8_1 z8_1 k8_2 z8_2 k8_3 z8_3 k6_0 z6_0 k6_1 z6_1 k6_2 z6_2 k6_3 z6_3 k5_0 z5_0 k5_1 z5_1 k3_0 z3_0 k3_1 z3_1 k3_2 z3_2 k3_3 z3_3; obtain ⟨k8_0, z8_0, k8_1, z8_1, k8_2, z8_2, k8_3, z8_3⟩ := H.b4 (g := g8) m0; obtain ⟨k6_0, z6_0, k6_1, z6_1, k6_2, z6_2, k6_3, z6_3⟩ := H.b4 (g := g6) m1; obtain ⟨k5_0, z5_0, k5_1, z5_1⟩ := H.b2 (g := g5) m2; obtain ⟨k3_0, z3_0, k3_1, z3_1, k3_2, z3_2, k3_3, z3_3⟩ := H.b4 (g := g3) m3)
    | (clear st235; go_at_call 44; (with_reducible refine (OfR _ 0 z1 z2 hz.out).mono ?_); rintro e w230 ⟨A231, c232, A233, c234, rfl, hr, hr2, hb⟩; replace H := (H.got (fresh_row hr) hb).more ((H.got (fresh_row hr2) hb).row _ m0); clear hr hr2 hb; clear k8_0 z8_0 k8_1 z8_1 k8_2 z8_2 k8_3 z8_3 k6_0 z6_0 k6_1 z6_1 k6_2 z6_2 k6_3 z6_3 k5_0 z5_0 k5_1 z5_1 k3_0 z3_0 k3_1 z3_1 k3_2 z3_2 k3_3 z3_3; obtain ⟨k8_0, z8_0, k8_1, z8_1, k8_2, z8_2, k8_3, z8_3⟩ := H.b4 (g := g8) m0; obtain ⟨k6_0, z6_0, k6_1, z6_1, k6_2, z6_2, k6_3, z6_3⟩ := H.b4 (g := g6) m1; obtain ⟨k5_0, z5_0, k5_1, z5_1⟩ := H.b2 (g := g5) m2; obtain ⟨k3_0, z3_0, k3_1, z3_1, k3_2, z3_2, k3_3, z3_3⟩ := H.b4 (g := g3) m3)
    | (clear st238; go_at_call 40; (with_reducible refine (Same_t (H.row _ m3) (H.row _ m2) (H.row _ m1) (H.row _ m0) (limR bu.out (by decide)) (limR bv.out (by decide)) (limR bz1.out (by decide)) (limR bz2.out (by decide)) hs1 hs2).mono ?_); rintro e w237 ⟨rfl, hb⟩; replace H := H.call hb; clear hb; clear k8_0 z8_0 k8_1 z8_1 k8_2 z8_2 k8_3 z8_3 k6_0 z6_0 k6_1 z6_1 k6_2 z6_2 k6_3 z6_3 k5_0 z5_0 k5_1 z5_1 k3_0 z3_0 k3_1 z3_1 k3_2 z3_2 k3_3 z3_3; obtain ⟨k8_0, z8_0, k8_1, z8_1, k8_2, z8_2, k8_3, z8_3⟩ := H.b4 (g := g8) m0; obtain ⟨k6_0, z6_0, k6_1, z6_1, k6_2, z6_2, k6_3, z6_3⟩ := H.b4 (g := g6) m1; obtain ⟨k5_0, z5_0, k5_1, z5_1⟩ := H.b2 (g := g5) m2; obtain ⟨k3_0, z3_0, k3_1, z3_1, k3_2, z3_2, k3_3, z3_3⟩ := H.b4 (g := g3) m3))
  go_ret
  exact ⟨rfl, H.below⟩


theorem rounds_n (a : ByteArray) (w : World) (n d : Int) (hp : Aside0 (rp a = (n, d, 0))) (hl : Aside0 (decide (200 < (a.size : Int)) = false)) (bn : Aside0 (ln n ≤ 512)) (bd : Aside0 (ln d ≤ 512)) (i f c f1 j1 c1 j2 n2 f2 c2 k1 k2 e1 u v z1 z2 : Int) (bi : Aside0 (ln i ≤ 1)) (bf : Aside0 (ln f ≤ 513)) (bc : Aside0 (ln c ≤ 513)) (bf1 : Aside0 (ln f1 ≤ 513)) (bj1 : Aside0 (ln j1 ≤ 1)) (bc1 : Aside0 (ln c1 ≤ 513)) (bj2 : Aside0 (ln j2 ≤ 1)) (bn2 : Aside0 (ln n2 ≤ 512)) (bf2 : Aside0 (ln f2 ≤ 513)) (bc2 : Aside0 (ln c2 ≤ 513)) (be1 : Aside0 (ln e1 ≤ 512)) (bu : Aside0 (ln u ≤ 600)) (bv : Aside0 (ln v ≤ 600)) (bz1 : Aside0 (ln z1 ≤ 1)) (bz2 : Aside0 (ln z2 ≤ 1)) (hi : Aside0 ((1 : Int) = i)) (hf : Aside0 (flr n d = f)) (hlo : Aside0 (qn f i = f1 ∧ qd f i = j1 ∧ qe i = 0)) (hc : Aside0 (-(flr (-n) d) = c)) (hhi : Aside0 (qn c i = c1 ∧ qd c i = j2 ∧ qe i = 0)) (hk1 : Aside0 (cmp3 (f1 * dd d) (n * dd j1) = k1)) (t1 : decide (0 < k1) = false) (hk2 : Aside0 (cmp3 (c1 * dd d) (n * dd j2) = k2)) (t2 : decide (k2 < 0) = false) (hn2 : Aside0 (-n = n2)) (d9 : Int) (hd9 : Aside0 (d = d9)) (bd9 : Aside0 (ln d9 ≤ 512)) (hf2 : Aside0 (flr n2 d9 = f2)) (h_c2 : Aside0 (-f2 = c2)) (hk3 : Aside0 (cmp3 c2 c = 0)) (he1 : Aside0 (dd d = e1)) (hu : Aside0 (qn (c1 * dd j1 + -f1 * dd j2) (dd j2 * dd j1) = u ∧ qd (c1 * dd j1 + -f1 * dd j2) (dd j2 * dd j1) = v)) (hz : Aside0 ((0 : Int) = z1 ∧ 0 = z2 ∧ -9223372036854775808 ≤ (0 : Int) ∧ (0 : Int) ≤ 9223372036854775807)) (k4 k5 o1 o2 : Int) (bo1 : Aside0 (ln o1 ≤ 1)) (bo2 : Aside0 (ln o2 ≤ 1)) (hk4 : Aside0 (cmp3 e1 i = k4)) (t3 : (k4 == 0) = false) (hs1 : Aside0 (cmp3 (u * dd z2) (z1 * dd v) = k5)) (hs2 : Aside0 (k5 ≠ 0)) (ho : Aside0 ((1 : Int) = o1 ∧ 0 = o2 ∧ -9223372036854775808 ≤ (1 : Int) ∧ (1 : Int) ≤ 9223372036854775807)) (hs3 : Aside0 (cmp3 (u * dd o2) (o1 * dd v) = 0)) (hs4 : Aside0 (qt u v = qt o1 o2)) : Calls Try.prog 18 #[.string a] w (fun e W' => e = .returned (.bool true) ∧ Below w.heap.size w W') := by
  have hu25 := Try.underlying25
  have hu51 := Try.underlying51
  have H := Sit.start w (fun _ => False)
  go_enter Try.func18, Try.ntmps18
  have st2 := trivial
  have st8 := trivial
  have st10 := trivial
  go_upto_region 4 with (first
    | (clear st2; go_at_call 38; (with_reducible refine (awake2 _).mono ?_); rintro e wA ⟨rfl, hb⟩; replace H := H.call hb; clear hb)
    | (clear st8; go_at_call 49; (with_reducible refine (ParseR a _ n d 0 hp.out).mono ?_); rintro e w3 ⟨A4, c5, A6, c7, rfl, hr, hr2, hb⟩; replace H := (H.got (fresh_row hr) hb).more ((H.got (fresh_row hr2) hb).row _ m0); clear hr hr2 hb)
    | (clear st10; (with_reducible refine gate_dst (N := 3) rfl ?_); refine box_event ?hg (N := 3) ?hd (cs := #[.bool false, .slice none 0 0, .bool false, .slice none 0 0]) (t := 51) ?hr ?_; (case hd => rfl); (case hg => rfl); (case hr => go_simp; try rfl); intro g3 hg w9 hbox hb; replace H := H.newbox hg hbox hb; clear hg hbox hb; obtain ⟨k3_0, z3_0, k3_1, z3_1, k3_2, z3_2, k3_3, z3_3⟩ := H.b4 (g := g3) m0))
  (try simp only [Act.put, List.setIfInBounds_toArray, List.set_cons_zero, List.set_cons_succ])
  replace H := ((((H.setn [] 0 (.bool (ng n)) rfl).setn [] 1 (.slice A4 (ln n) c5) rfl).setn [] 2 (.bool (ng d)) rfl).setn [] 3 (.slice A6 (ln d) c7) rfl)
  clear k3_0 z3_0 k3_1 z3_1 k3_2 z3_2 k3_3 z3_3
  generalize ((((w9.setCell ⟨g3, 0, none⟩ (.bool (ng n))).setCell ⟨g3, 1, none⟩ (.slice A4 (ln n) c5)).setCell ⟨g3, 2, none⟩ (.bool (ng d))).setCell ⟨g3, 3, none⟩ (.slice A6 (ln d) c7)) = w11 at H ⊢
  obtain ⟨k3_0, z3_0, k3_1, z3_1, k3_2, z3_2, k3_3, z3_3⟩ := H.b4 (g := g3) m0
  have st13 := trivial
  have st17 := trivial
  have st19 := trivial
  go_upto_region 7 with (first
    | (clear st13; go_at_call 50; (with_reducible refine (LongQ a _ false hl.out).mono ?_); rintro e w12 ⟨rfl, hb⟩; replace H := H.call hb; clear hb; clear k3_0 z3_0 k3_1 z3_1 k3_2 z3_2 k3_3 z3_3; obtain ⟨k3_0, z3_0, k3_1, z3_1, k3_2, z3_2, k3_3, z3_3⟩ := H.b4 (g := g3) m0)
    | (clear st17; go_at_call 27; (with_reducible refine (OfQ _ 1 i hi.out (by decide) (by decide)).mono ?_); rintro e w14 ⟨A15, c16, rfl, hr, hb⟩; replace H := H.got (fresh_row hr) hb; clear hr hb; clear k3_0 z3_0 k3_1 z3_1 k3_2 z3_2 k3_3 z3_3; obtain ⟨k3_0, z3_0, k3_1, z3_1, k3_2, z3_2, k3_3, z3_3⟩ := H.b4 (g := g3) m0)
    | (clear st19; (with_reducible refine gate_dst (N := 5) rfl ?_); refine box_event ?hg (N := 5) ?hd (cs := #[.bool false, .slice none 0 0]) (t := 25) ?hr ?_; (case hd => rfl); (case hg => rfl); (case hr => go_simp; try rfl); intro g5 hg w18 hbox hb; replace H := H.newbox hg hbox hb; clear hg hbox hb; clear k3_0 z3_0 k3_1 z3_1 k3_2 z3_2 k3_3 z3_3; obtain ⟨k5_0, z5_0, k5_1, z5_1⟩ := H.b2 (g := g5) m0; obtain ⟨k3_0, z3_0, k3_1, z3_1, k3_2, z3_2, k3_3, z3_3⟩ := H.b4 (g := g3) m1; have ne_g5_g3 := H.ne (g := g5) (g' := g3) 0 1 rfl rfl (by decide); have ne_g3_g5 := ne_g5_g3.symm))
  (try simp only [Act.put, List.setIfInBounds_toArray, List.set_cons_zero, List.set_cons_succ])
  replace H := ((H.setn [] 0 (.bool (ng i)) rfl).setn [] 1 (.slice A15 (ln i) c16) rfl)
  clear k5_0 z5_0 k5_1 z5_1 k3_0 z3_0 k3_1 z3_1 k3_2 z3_2 k3_3 z3_3
  generalize ((w18.setCell ⟨g5, 0, none⟩ (.bool (ng i))).setCell ⟨g5, 1, none⟩ (.slice A15 (ln i) c16)) = w20 at H ⊢
  obtain ⟨k5_0, z5_0, k5_1, z5_1⟩ := H.b2 (g := g5) m0
  obtain ⟨k3_0, z3_0, k3_1, z3_1, k3_2, z3_2, k3_3, z3_3⟩ := H.b4 (g := g3) m1
  clear k5_0 z5_0 k5_1 z5_1 k3_0 z3_0 k3_1 z3_1 k3_2 z3_2 k3_3 z3_3
  replace H := H.drew
  refine start_ (n := 10) (S := fun w' => w'.cell? ⟨g3, 0, none⟩ = some (.bool (ng n)) ∧ w'.cell? ⟨g3, 1, none⟩ = some (.slice A4 (ln n) c5) ∧ w'.cell? ⟨g3, 2, none⟩ = some (.bool (ng d)) ∧ w'.cell? ⟨g3, 3, none⟩ = some (.slice A6 (ln d) c7) ∧ w'.cell? ⟨g5, 0, none⟩ = some (.bool (ng i)) ∧ w'.cell? ⟨g5, 1, none⟩ = some (.slice A15 (ln i) c16)) (ds := [8]) #[false, false, false, false, false, false, false, false, false, false] (by kernel_rfl) rfl rfl ⟨H.cell m1 0, H.cell m1 1, H.cell m1 2, H.cell m1 3, H.cell m0 0, H.cell m0 1⟩ (fun hQ => ?_)
  generalize w20.drew = w21 at H hQ ⊢
  refine with_tabW tb18.tab7 tb18.bits7 (fun HT_ HW_ => ?_)
  refine take_ (i := 0) (N := some 26) (v := ?_) (a' := ?_) (bm 10 1) rfl rfl (take_ofW HT_.out HW_.out (by kernel_rfl)) (fun _ _ _ h => h) (Or.inl ⟨by rfl, ?_⟩) hQ ?_ ?_
  rotate_left
  · rintro w' ⟨s0, s1, s2, s3, s4, s5⟩
    go_simp
    with_reducible rfl
  rotate_left
  · simp only [Act.put, List.setIfInBounds_toArray, List.set_cons_zero, List.set_cons_succ, i64_w, i32_w]
    rfl
  refine take_ (i := 2) (N := some 28) (v := ?_) (a' := ?_) (bm 10 5) rfl rfl (take_ofW HT_.out HW_.out (by kernel_rfl)) (fun _ _ _ h => h) (Or.inl ⟨by rfl, ?_⟩) hQ ?_ ?_
  rotate_left
  · rintro w' ⟨s0, s1, s2, s3, s4, s5⟩
    go_simp
    with_reducible rfl
  rotate_left
  · simp only [Act.put, List.setIfInBounds_toArray, List.set_cons_zero, List.set_cons_succ, i64_w, i32_w]
    rfl
  refine join_ (σ := Option Addr × Nat × Option Addr × Nat × Option Addr × Nat × Nat) 2 #[true, true, true, true, true, true, true, true, false, false] (fun s_ => [(27, .agg #[.bool (ng f), .slice s_.1 (ln f) s_.2.1]), (29, .tuple #[.agg #[.bool (ng f1), .slice s_.2.2.1 (ln f1) s_.2.2.2.1, .bool (ng j1), .slice s_.2.2.2.2.1 (ln j1) s_.2.2.2.2.2.1], .int .i64 0]), (6, .pointer (some ⟨s_.2.2.2.2.2.2, 0, none⟩)), (25, .tuple #[.agg #[.bool (ng f1), .slice s_.2.2.1 (ln f1) s_.2.2.2.1, .bool (ng j1), .slice s_.2.2.2.2.1 (ln j1) s_.2.2.2.2.2.1], .int .i64 0]), (30, .agg #[.bool (ng f1), .slice s_.2.2.1 (ln f1) s_.2.2.2.1, .bool (ng j1), .slice s_.2.2.2.2.1 (ln j1) s_.2.2.2.2.2.1]), (31, .int .i64 0)]) (fun s_ w' => Sit w w' (fun _ => False) [(s_.2.2.2.2.2.2, .cells #[.bool false, .slice none 0 0, .bool false, .slice none 0 0] 51 (0, 0)), (g5, .cells #[.bool (ng i), .slice A15 (ln i) c16] 25 (0, 0)), (g3, .cells #[.bool (ng n), .slice A4 (ln n) c5, .bool (ng d), .slice A6 (ln d) c7] 51 (0, 0))] [bw s_.2.2.2.2.1 s_.2.2.2.2.2.1 j1, bw s_.2.2.1 s_.2.2.2.1 f1, bw s_.1 s_.2.1 f, bw A15 c16 i, bw A6 c7 d, bw A4 c5 n]) ?_ ?_
  rotate_left
  · intro hCont
    refine two_ (i := 1) (j := 7) (Ni := some 27) (Nj := some 6) (bm 10 7) (bm 10 133) rfl rfl rfl rfl (two_of HT_.out (by kernel_rfl)) (by decide) (by decide) (fun K hK => ?_) (fun K hK => ?_)
    · skip
      refine goes_ Try.func43 (by kernel_rfl) rfl #[.agg #[.bool (ng n), .slice A4 (ln n) c5, .bool (ng d), .slice A6 (ln d) c7]] (by rfl) rfl rfl (by simp only [List.map_toArray, List.map_cons, List.map_nil]; try rfl) ?_
      with_reducible refine (FloorR (H.row _ m2) (H.row _ m1) (limR bn.out (by decide)) (limR bd.out (by decide)) f hf.out).mono ?_
      rintro e w42 ⟨A43, c44, rfl, hr, hb⟩
      replace H := H.got hr hb
      clear hr hb
      refine ⟨_, rfl, ?_⟩
      refine hK.out _ _ ⟨H.cell m1 0, H.cell m1 1, H.cell m1 2, H.cell m1 3, H.cell m0 0, H.cell m0 1⟩ (fun hQ => ?_)
      clear hK K
      refine norm_ (a' := ?_) ?_ ?_
      rotate_left
      · show Act.put _ (some 27) _ = _
        simp only [Act.put, List.setIfInBounds_toArray, List.set_cons_zero, List.set_cons_succ, i64_w, i32_w]
        rfl
      refine two_ (i := 3) (j := 7) (Ni := some 29) (Nj := some 6) (bm 10 15) (bm 10 135) rfl rfl rfl rfl (two_of HT_.out (by kernel_rfl)) (by decide) (by decide) (fun K hK => ?_) (fun K hK => ?_)
      · skip
        refine goes_ Try.func63 (by kernel_rfl) rfl #[.agg #[.bool (ng f), .slice A43 (ln f) c44], .agg #[.bool (ng i), .slice A15 (ln i) c16]] (by rfl) rfl rfl (by simp only [List.map_toArray, List.map_cons, List.map_nil]; try rfl) ?_
        with_reducible refine (MakeQ (H.row _ m0) (H.row _ m1) (lim bf.out (by decide)) (lim bi.out (by decide)) f1 j1 0 hlo.out.1 hlo.out.2.1 hlo.out.2.2).mono ?_
        rintro e w65 ⟨A66, c67, A68, c69, rfl, hr, hr2, hb⟩
        replace H := (H.got hr hb).more ((H.got hr2 hb).row _ m0)
        clear hr hr2 hb
        refine ⟨_, rfl, ?_⟩
        refine hK.out _ _ ⟨H.cell m1 0, H.cell m1 1, H.cell m1 2, H.cell m1 3, H.cell m0 0, H.cell m0 1⟩ (fun hQ => ?_)
        clear hK K
        refine norm_ (a' := ?_) ?_ ?_
        rotate_left
        · show Act.put _ (some 29) _ = _
          simp only [Act.put, List.setIfInBounds_toArray, List.set_cons_zero, List.set_cons_succ, i64_w, i32_w]
          rfl
        refine pure_ (i := 4) (N := some 25) (v := ?_) (a' := ?_) (bm 10 31) rfl rfl (any_of HT_.out (by kernel_rfl)) (fun _ _ _ h => h) (Or.inl ⟨by rfl, ?_⟩) ?_ ?_
        rotate_left
        · intro w'
          go_simp
          with_reducible rfl
        rotate_left
        · simp only [Act.put, List.setIfInBounds_toArray, List.set_cons_zero, List.set_cons_succ, i64_w, i32_w]
          rfl
        refine pure_ (i := 5) (N := some 30) (v := ?_) (a' := ?_) (bm 10 63) rfl rfl (any_of HT_.out (by kernel_rfl)) (fun _ _ _ h => h) (Or.inl ⟨by rfl, ?_⟩) ?_ ?_
        rotate_left
        · intro w'
          go_simp
          with_reducible rfl
        rotate_left
        · simp only [Act.put, List.setIfInBounds_toArray, List.set_cons_zero, List.set_cons_succ, i64_w, i32_w]
          rfl
        refine pure_ (i := 6) (N := some 31) (v := ?_) (a' := ?_) (bm 10 127) rfl rfl (any_of HT_.out (by kernel_rfl)) (fun _ _ _ h => h) (Or.inl ⟨by rfl, ?_⟩) ?_ ?_
        rotate_left
        · intro w'
          go_simp
          with_reducible rfl
        rotate_left
        · simp only [Act.put, List.setIfInBounds_toArray, List.set_cons_zero, List.set_cons_succ, i64_w, i32_w]
          rfl
        refine one_ (i := 7) (N := some 6) (bm 10 255) rfl rfl (one_of HT_.out (by kernel_rfl)) (by decide) (fun K hK => ?_)
        refine value_ (w1 := ?_) (v := ?_) (by rfl) rfl ?_ ?_
        rotate_left 2
        · go_simp
          constructor
          · rfl
          · rfl
        replace H := H.newbox rfl (blk_new _ (.cells #[.bool false, .slice none 0 0, .bool false, .slice none 0 0] 51 (0, 0))) (below_alloc (Below.refl _ _) _)
        refine hK.out _ _ ⟨H.cell m2 0, H.cell m2 1, H.cell m2 2, H.cell m2 3, H.cell m1 0, H.cell m1 1⟩ (fun hQ => ?_)
        clear hK K
        refine norm_ (a' := ?_) ?_ ?_
        rotate_left
        · show Act.put _ (some 6) _ = _
          simp only [Act.put, List.setIfInBounds_toArray, List.set_cons_zero, List.set_cons_succ, i64_w, i32_w]
          rfl
        exact norm_ (by simp only [putAll, Act.put, List.setIfInBounds_toArray, List.set_cons_zero, List.set_cons_succ]; try rfl) (hCont ⟨A43, c44, A66, c67, A68, c69, _⟩ _ H)
      · skip
        refine value_ (w1 := ?_) (v := ?_) (by rfl) rfl ?_ ?_
        rotate_left 2
        · go_simp
          constructor
          · rfl
          · rfl
        replace H := H.newbox rfl (blk_new _ (.cells #[.bool false, .slice none 0 0, .bool false, .slice none 0 0] 51 (0, 0))) (below_alloc (Below.refl _ _) _)
        refine hK.out _ _ ⟨H.cell m2 0, H.cell m2 1, H.cell m2 2, H.cell m2 3, H.cell m1 0, H.cell m1 1⟩ (fun hQ => ?_)
        clear hK K
        refine norm_ (a' := ?_) ?_ ?_
        rotate_left
        · show Act.put _ (some 6) _ = _
          simp only [Act.put, List.setIfInBounds_toArray, List.set_cons_zero, List.set_cons_succ, i64_w, i32_w]
          rfl
        refine one_ (i := 3) (N := some 29) (bm 10 143) rfl rfl (one_of HT_.out (by kernel_rfl)) (by decide) (fun K hK => ?_)
        refine goes_ Try.func63 (by kernel_rfl) rfl #[.agg #[.bool (ng f), .slice A43 (ln f) c44], .agg #[.bool (ng i), .slice A15 (ln i) c16]] (by rfl) rfl rfl (by simp only [List.map_toArray, List.map_cons, List.map_nil]; try rfl) ?_
        with_reducible refine (MakeQ (H.row _ m0) (H.row _ m1) (lim bf.out (by decide)) (lim bi.out (by decide)) f1 j1 0 hlo.out.1 hlo.out.2.1 hlo.out.2.2).mono ?_
        rintro e w65 ⟨A66, c67, A68, c69, rfl, hr, hr2, hb⟩
        replace H := (H.got hr hb).more ((H.got hr2 hb).row _ m0)
        clear hr hr2 hb
        refine ⟨_, rfl, ?_⟩
        refine hK.out _ _ ⟨H.cell m2 0, H.cell m2 1, H.cell m2 2, H.cell m2 3, H.cell m1 0, H.cell m1 1⟩ (fun hQ => ?_)
        clear hK K
        refine norm_ (a' := ?_) ?_ ?_
        rotate_left
        · show Act.put _ (some 29) _ = _
          simp only [Act.put, List.setIfInBounds_toArray, List.set_cons_zero, List.set_cons_succ, i64_w, i32_w]
          rfl
        refine pure_ (i := 4) (N := some 25) (v := ?_) (a' := ?_) (bm 10 159) rfl rfl (any_of HT_.out (by kernel_rfl)) (fun _ _ _ h => h) (Or.inl ⟨by rfl, ?_⟩) ?_ ?_
        rotate_left
        · intro w'
          go_simp
          with_reducible rfl
        rotate_left
        · simp only [Act.put, List.setIfInBounds_toArray, List.set_cons_zero, List.set_cons_succ, i64_w, i32_w]
          rfl
        refine pure_ (i := 5) (N := some 30) (v := ?_) (a' := ?_) (bm 10 191) rfl rfl (any_of HT_.out (by kernel_rfl)) (fun _ _ _ h => h) (Or.inl ⟨by rfl, ?_⟩) ?_ ?_
        rotate_left
        · intro w'
          go_simp
          with_reducible rfl
        rotate_left
        · simp only [Act.put, List.setIfInBounds_toArray, List.set_cons_zero, List.set_cons_succ, i64_w, i32_w]
          rfl
        refine pure_ (i := 6) (N := some 31) (v := ?_) (a' := ?_) (bm 10 255) rfl rfl (any_of HT_.out (by kernel_rfl)) (fun _ _ _ h => h) (Or.inl ⟨by rfl, ?_⟩) ?_ ?_
        rotate_left
        · intro w'
          go_simp
          with_reducible rfl
        rotate_left
        · simp only [Act.put, List.setIfInBounds_toArray, List.set_cons_zero, List.set_cons_succ, i64_w, i32_w]
          rfl
        exact norm_ (by simp only [putAll, Act.put, List.setIfInBounds_toArray, List.set_cons_zero, List.set_cons_succ]; try rfl) (hCont ⟨A43, c44, A66, c67, A68, c69, _⟩ _ H)
    · skip
      refine value_ (w1 := ?_) (v := ?_) (by rfl) rfl ?_ ?_
      rotate_left 2
      · go_simp
        constructor
        · rfl
        · rfl
      replace H := H.newbox rfl (blk_new _ (.cells #[.bool false, .slice none 0 0, .bool false, .slice none 0 0] 51 (0, 0))) (below_alloc (Below.refl _ _) _)
      refine hK.out _ _ ⟨H.cell m2 0, H.cell m2 1, H.cell m2 2, H.cell m2 3, H.cell m1 0, H.cell m1 1⟩ (fun hQ => ?_)
      clear hK K
      refine norm_ (a' := ?_) ?_ ?_
      rotate_left
      · show Act.put _ (some 6) _ = _
        simp only [Act.put, List.setIfInBounds_toArray, List.set_cons_zero, List.set_cons_succ, i64_w, i32_w]
        rfl
      refine one_ (i := 1) (N := some 27) (bm 10 135) rfl rfl (one_of HT_.out (by kernel_rfl)) (by decide) (fun K hK => ?_)
      refine goes_ Try.func43 (by kernel_rfl) rfl #[.agg #[.bool (ng n), .slice A4 (ln n) c5, .bool (ng d), .slice A6 (ln d) c7]] (by rfl) rfl rfl (by simp only [List.map_toArray, List.map_cons, List.map_nil]; try rfl) ?_
      with_reducible refine (FloorR (H.row _ m2) (H.row _ m1) (limR bn.out (by decide)) (limR bd.out (by decide)) f hf.out).mono ?_
      rintro e w42 ⟨A43, c44, rfl, hr, hb⟩
      replace H := H.got hr hb
      clear hr hb
      refine ⟨_, rfl, ?_⟩
      refine hK.out _ _ ⟨H.cell m2 0, H.cell m2 1, H.cell m2 2, H.cell m2 3, H.cell m1 0, H.cell m1 1⟩ (fun hQ => ?_)
      clear hK K
      refine norm_ (a' := ?_) ?_ ?_
      rotate_left
      · show Act.put _ (some 27) _ = _
        simp only [Act.put, List.setIfInBounds_toArray, List.set_cons_zero, List.set_cons_succ, i64_w, i32_w]
        rfl
      refine one_ (i := 3) (N := some 29) (bm 10 143) rfl rfl (one_of HT_.out (by kernel_rfl)) (by decide) (fun K hK => ?_)
      refine goes_ Try.func63 (by kernel_rfl) rfl #[.agg #[.bool (ng f), .slice A43 (ln f) c44], .agg #[.bool (ng i), .slice A15 (ln i) c16]] (by rfl) rfl rfl (by simp only [List.map_toArray, List.map_cons, List.map_nil]; try rfl) ?_
      with_reducible refine (MakeQ (H.row _ m0) (H.row _ m1) (lim bf.out (by decide)) (lim bi.out (by decide)) f1 j1 0 hlo.out.1 hlo.out.2.1 hlo.out.2.2).mono ?_
      rintro e w65 ⟨A66, c67, A68, c69, rfl, hr, hr2, hb⟩
      replace H := (H.got hr hb).more ((H.got hr2 hb).row _ m0)
      clear hr hr2 hb
      refine ⟨_, rfl, ?_⟩
      refine hK.out _ _ ⟨H.cell m2 0, H.cell m2 1, H.cell m2 2, H.cell m2 3, H.cell m1 0, H.cell m1 1⟩ (fun hQ => ?_)
      clear hK K
      refine norm_ (a' := ?_) ?_ ?_
      rotate_left
      · show Act.put _ (some 29) _ = _
        simp only [Act.put, List.setIfInBounds_toArray, List.set_cons_zero, List.set_cons_succ, i64_w, i32_w]
        rfl
      refine pure_ (i := 4) (N := some 25) (v := ?_) (a' := ?_) (bm 10 159) rfl rfl (any_of HT_.out (by kernel_rfl)) (fun _ _ _ h => h) (Or.inl ⟨by rfl, ?_⟩) ?_ ?_
      rotate_left
      · intro w'
        go_simp
        with_reducible rfl
      rotate_left
      · simp only [Act.put, List.setIfInBounds_toArray, List.set_cons_zero, List.set_cons_succ, i64_w, i32_w]
        rfl
      refine pure_ (i := 5) (N := some 30) (v := ?_) (a' := ?_) (bm 10 191) rfl rfl (any_of HT_.out (by kernel_rfl)) (fun _ _ _ h => h) (Or.inl ⟨by rfl, ?_⟩) ?_ ?_
      rotate_left
      · intro w'
        go_simp
        with_reducible rfl
      rotate_left
      · simp only [Act.put, List.setIfInBounds_toArray, List.set_cons_zero, List.set_cons_succ, i64_w, i32_w]
        rfl
      refine pure_ (i := 6) (N := some 31) (v := ?_) (a' := ?_) (bm 10 255) rfl rfl (any_of HT_.out (by kernel_rfl)) (fun _ _ _ h => h) (Or.inl ⟨by rfl, ?_⟩) ?_ ?_
      rotate_left
      · intro w'
        go_simp
        with_reducible rfl
      rotate_left
      · simp only [Act.put, List.setIfInBounds_toArray, List.set_cons_zero, List.set_cons_succ, i64_w, i32_w]
        rfl
      exact norm_ (by simp only [putAll, Act.put, List.setIfInBounds_toArray, List.set_cons_zero, List.set_cons_succ]; try rfl) (hCont ⟨A43, c44, A66, c67, A68, c69, _⟩ _ H)
  rintro ⟨A43, c44, A66, c67, A68, c69, g6⟩ wF H
  clear hQ
  have hQ := (show wF.cell? ⟨g3, 0, none⟩ = some (.bool (ng n)) ∧ wF.cell? ⟨g3, 1, none⟩ = some (.slice A4 (ln n) c5) ∧ wF.cell? ⟨g3, 2, none⟩ = some (.bool (ng d)) ∧ wF.cell? ⟨g3, 3, none⟩ = some (.slice A6 (ln d) c7) ∧ wF.cell? ⟨g5, 0, none⟩ = some (.bool (ng i)) ∧ wF.cell? ⟨g5, 1, none⟩ = some (.slice A15 (ln i) c16) from ⟨H.cell m2 0, H.cell m2 1, H.cell m2 2, H.cell m2 3, H.cell m1 0, H.cell m1 1⟩)
  refine norm_ (a' := ?_) ?_ ?_
  rotate_left
  · simp only [putAll, Act.put, List.setIfInBounds_toArray, List.set_cons_zero, List.set_cons_succ]
    rfl
  refine last_ (i := 8) (N := none) (bm 10 511) rfl rfl (one_of HT_.out (by kernel_rfl)) (by decide) (fun K hK => ?_)
  obtain ⟨k6_0, z6_0, k6_1, z6_1, k6_2, z6_2, k6_3, z6_3⟩ := H.b4 (g := g6) m0
  obtain ⟨k5_0, z5_0, k5_1, z5_1⟩ := H.b2 (g := g5) m1
  obtain ⟨k3_0, z3_0, k3_1, z3_1, k3_2, z3_2, k3_3, z3_3⟩ := H.b4 (g := g3) m2
  refine skip_ (w1 := ?_) (by rfl) rfl ?_ ?_
  rotate_left
  · go_simp
    rfl
  refine hK.out _ _ ?_
  clear hK K
  refine pure_ (i := 9) (N := some 7) (v := ?_) (a' := ?_) (bm 10 1023) rfl rfl (any_of HT_.out (by kernel_rfl)) (fun _ _ _ h => h) (Or.inl ⟨by rfl, ?_⟩) ?_ ?_
  rotate_left
  · intro w'
    go_simp
    with_reducible rfl
  rotate_left
  · simp only [Act.put, List.setIfInBounds_toArray, List.set_cons_zero, List.set_cons_succ, i64_w, i32_w]
    rfl
  refine done_ (done_of HT_.out (by kernel_rfl)) ?_
  try clear hQ
  replace H := ((((H.setn [] 0 (.bool (ng f1)) rfl).setn [] 1 (.slice A66 (ln f1) c67) rfl).setn [] 2 (.bool (ng j1)) rfl).setn [] 3 (.slice A68 (ln j1) c69) rfl)
  clear k6_0 z6_0 k6_1 z6_1 k6_2 z6_2 k6_3 z6_3 k5_0 z5_0 k5_1 z5_1 k3_0 z3_0 k3_1 z3_1 k3_2 z3_2 k3_3 z3_3
  generalize ((((wF.setCell ⟨g6, 0, none⟩ (.bool (ng f1))).setCell ⟨g6, 1, none⟩ (.slice A66 (ln f1) c67)).setCell ⟨g6, 2, none⟩ (.bool (ng j1))).setCell ⟨g6, 3, none⟩ (.slice A68 (ln j1) c69)) = w110 at H ⊢
  obtain ⟨k6_0, z6_0, k6_1, z6_1, k6_2, z6_2, k6_3, z6_3⟩ := H.b4 (g := g6) m0
  obtain ⟨k5_0, z5_0, k5_1, z5_1⟩ := H.b2 (g := g5) m1
  obtain ⟨k3_0, z3_0, k3_1, z3_1, k3_2, z3_2, k3_3, z3_3⟩ := H.b4 (g := g3) m2
  go_upto_region 8 with fail
  (try simp only [Act.put, List.setIfInBounds_toArray, List.set_cons_zero, List.set_cons_succ])
  clear k6_0 z6_0 k6_1 z6_1 k6_2 z6_2 k6_3 z6_3 k5_0 z5_0 k5_1 z5_1 k3_0 z3_0 k3_1 z3_1 k3_2 z3_2 k3_3 z3_3
  replace H := H.drew
  refine start_ (n := 10) (S := fun w' => w'.cell? ⟨g3, 0, none⟩ = some (.bool (ng n)) ∧ w'.cell? ⟨g3, 1, none⟩ = some (.slice A4 (ln n) c5) ∧ w'.cell? ⟨g3, 2, none⟩ = some (.bool (ng d)) ∧ w'.cell? ⟨g3, 3, none⟩ = some (.slice A6 (ln d) c7) ∧ w'.cell? ⟨g5, 0, none⟩ = some (.bool (ng i)) ∧ w'.cell? ⟨g5, 1, none⟩ = some (.slice A15 (ln i) c16)) (ds := [8]) #[false, false, false, false, false, false, false, false, false, false] (by kernel_rfl) rfl rfl ⟨H.cell m2 0, H.cell m2 1, H.cell m2 2, H.cell m2 3, H.cell m1 0, H.cell m1 1⟩ (fun hQ => ?_)
  generalize w110.drew = w111 at H hQ ⊢
  refine with_tabW tb18.tab8 tb18.bits8 (fun HT_ HW_ => ?_)
  refine take_ (i := 0) (N := some 33) (v := ?_) (a' := ?_) (bm 10 1) rfl rfl (take_ofW HT_.out HW_.out (by kernel_rfl)) (fun _ _ _ h => h) (Or.inl ⟨by rfl, ?_⟩) hQ ?_ ?_
  rotate_left
  · rintro w' ⟨s0, s1, s2, s3, s4, s5⟩
    go_simp
    with_reducible rfl
  rotate_left
  · simp only [Act.put, List.setIfInBounds_toArray, List.set_cons_zero, List.set_cons_succ, i64_w, i32_w]
    rfl
  refine take_ (i := 2) (N := some 35) (v := ?_) (a' := ?_) (bm 10 5) rfl rfl (take_ofW HT_.out HW_.out (by kernel_rfl)) (fun _ _ _ h => h) (Or.inl ⟨by rfl, ?_⟩) hQ ?_ ?_
  rotate_left
  · rintro w' ⟨s0, s1, s2, s3, s4, s5⟩
    go_simp
    with_reducible rfl
  rotate_left
  · simp only [Act.put, List.setIfInBounds_toArray, List.set_cons_zero, List.set_cons_succ, i64_w, i32_w]
    rfl
  refine join_ (σ := Option Addr × Nat × Option Addr × Nat × Option Addr × Nat × Nat) 2 #[true, true, true, true, true, true, true, true, false, false] (fun s_ => [(34, .agg #[.bool (ng c), .slice s_.1 (ln c) s_.2.1]), (36, .tuple #[.agg #[.bool (ng c1), .slice s_.2.2.1 (ln c1) s_.2.2.2.1, .bool (ng j2), .slice s_.2.2.2.2.1 (ln j2) s_.2.2.2.2.2.1], .int .i64 0]), (8, .pointer (some ⟨s_.2.2.2.2.2.2, 0, none⟩)), (32, .tuple #[.agg #[.bool (ng c1), .slice s_.2.2.1 (ln c1) s_.2.2.2.1, .bool (ng j2), .slice s_.2.2.2.2.1 (ln j2) s_.2.2.2.2.2.1], .int .i64 0]), (37, .agg #[.bool (ng c1), .slice s_.2.2.1 (ln c1) s_.2.2.2.1, .bool (ng j2), .slice s_.2.2.2.2.1 (ln j2) s_.2.2.2.2.2.1]), (38, .int .i64 0)]) (fun s_ w' => Sit w w' (fun _ => False) [(s_.2.2.2.2.2.2, .cells #[.bool false, .slice none 0 0, .bool false, .slice none 0 0] 51 (0, 0)), (g6, .cells #[.bool (ng f1), .slice A66 (ln f1) c67, .bool (ng j1), .slice A68 (ln j1) c69] 51 (0, 0)), (g5, .cells #[.bool (ng i), .slice A15 (ln i) c16] 25 (0, 0)), (g3, .cells #[.bool (ng n), .slice A4 (ln n) c5, .bool (ng d), .slice A6 (ln d) c7] 51 (0, 0))] [bw s_.2.2.2.2.1 s_.2.2.2.2.2.1 j2, bw s_.2.2.1 s_.2.2.2.1 c1, bw s_.1 s_.2.1 c, bw A68 c69 j1, bw A66 c67 f1, bw A43 c44 f, bw A15 c16 i, bw A6 c7 d, bw A4 c5 n]) ?_ ?_
  rotate_left
  · intro hCont
    refine two_ (i := 1) (j := 7) (Ni := some 34) (Nj := some 8) (bm 10 7) (bm 10 133) rfl rfl rfl rfl (two_of HT_.out (by kernel_rfl)) (by decide) (by decide) (fun K hK => ?_) (fun K hK => ?_)
    · skip
      refine goes_ Try.func48 (by kernel_rfl) rfl #[.agg #[.bool (ng n), .slice A4 (ln n) c5, .bool (ng d), .slice A6 (ln d) c7]] (by rfl) rfl rfl (by simp only [List.map_toArray, List.map_cons, List.map_nil]; try rfl) ?_
      with_reducible refine (CeilR (H.row _ m5) (H.row _ m4) (limR bn.out (by decide)) (limR bd.out (by decide)) c hc.out).mono ?_
      rintro e w132 ⟨A133, c134, rfl, hr, hb⟩
      replace H := H.got hr hb
      clear hr hb
      refine ⟨_, rfl, ?_⟩
      refine hK.out _ _ ⟨H.cell m2 0, H.cell m2 1, H.cell m2 2, H.cell m2 3, H.cell m1 0, H.cell m1 1⟩ (fun hQ => ?_)
      clear hK K
      refine norm_ (a' := ?_) ?_ ?_
      rotate_left
      · show Act.put _ (some 34) _ = _
        simp only [Act.put, List.setIfInBounds_toArray, List.set_cons_zero, List.set_cons_succ, i64_w, i32_w]
        rfl
      refine two_ (i := 3) (j := 7) (Ni := some 36) (Nj := some 8) (bm 10 15) (bm 10 135) rfl rfl rfl rfl (two_of HT_.out (by kernel_rfl)) (by decide) (by decide) (fun K hK => ?_) (fun K hK => ?_)
      · skip
        refine goes_ Try.func63 (by kernel_rfl) rfl #[.agg #[.bool (ng c), .slice A133 (ln c) c134], .agg #[.bool (ng i), .slice A15 (ln i) c16]] (by rfl) rfl rfl (by simp only [List.map_toArray, List.map_cons, List.map_nil]; try rfl) ?_
        with_reducible refine (MakeQ (H.row _ m0) (H.row _ m4) (lim bc.out (by decide)) (lim bi.out (by decide)) c1 j2 0 hhi.out.1 hhi.out.2.1 hhi.out.2.2).mono ?_
        rintro e w155 ⟨A156, c157, A158, c159, rfl, hr, hr2, hb⟩
        replace H := (H.got hr hb).more ((H.got hr2 hb).row _ m0)
        clear hr hr2 hb
        refine ⟨_, rfl, ?_⟩
        refine hK.out _ _ ⟨H.cell m2 0, H.cell m2 1, H.cell m2 2, H.cell m2 3, H.cell m1 0, H.cell m1 1⟩ (fun hQ => ?_)
        clear hK K
        refine norm_ (a' := ?_) ?_ ?_
        rotate_left
        · show Act.put _ (some 36) _ = _
          simp only [Act.put, List.setIfInBounds_toArray, List.set_cons_zero, List.set_cons_succ, i64_w, i32_w]
          rfl
        refine pure_ (i := 4) (N := some 32) (v := ?_) (a' := ?_) (bm 10 31) rfl rfl (any_of HT_.out (by kernel_rfl)) (fun _ _ _ h => h) (Or.inl ⟨by rfl, ?_⟩) ?_ ?_
        rotate_left
        · intro w'
          go_simp
          with_reducible rfl
        rotate_left
        · simp only [Act.put, List.setIfInBounds_toArray, List.set_cons_zero, List.set_cons_succ, i64_w, i32_w]
          rfl
        refine pure_ (i := 5) (N := some 37) (v := ?_) (a' := ?_) (bm 10 63) rfl rfl (any_of HT_.out (by kernel_rfl)) (fun _ _ _ h => h) (Or.inl ⟨by rfl, ?_⟩) ?_ ?_
        rotate_left
        · intro w'
          go_simp
          with_reducible rfl
        rotate_left
        · simp only [Act.put, List.setIfInBounds_toArray, List.set_cons_zero, List.set_cons_succ, i64_w, i32_w]
          rfl
        refine pure_ (i := 6) (N := some 38) (v := ?_) (a' := ?_) (bm 10 127) rfl rfl (any_of HT_.out (by kernel_rfl)) (fun _ _ _ h => h) (Or.inl ⟨by rfl, ?_⟩) ?_ ?_
        rotate_left
        · intro w'
          go_simp
          with_reducible rfl
        rotate_left
        · simp only [Act.put, List.setIfInBounds_toArray, List.set_cons_zero, List.set_cons_succ, i64_w, i32_w]
          rfl
        refine one_ (i := 7) (N := some 8) (bm 10 255) rfl rfl (one_of HT_.out (by kernel_rfl)) (by decide) (fun K hK => ?_)
        refine value_ (w1 := ?_) (v := ?_) (by rfl) rfl ?_ ?_
        rotate_left 2
        · go_simp
          constructor
          · rfl
          · rfl
        replace H := H.newbox rfl (blk_new _ (.cells #[.bool false, .slice none 0 0, .bool false, .slice none 0 0] 51 (0, 0))) (below_alloc (Below.refl _ _) _)
        refine hK.out _ _ ⟨H.cell m3 0, H.cell m3 1, H.cell m3 2, H.cell m3 3, H.cell m2 0, H.cell m2 1⟩ (fun hQ => ?_)
        clear hK K
        refine norm_ (a' := ?_) ?_ ?_
        rotate_left
        · show Act.put _ (some 8) _ = _
          simp only [Act.put, List.setIfInBounds_toArray, List.set_cons_zero, List.set_cons_succ, i64_w, i32_w]
          rfl
        exact norm_ (by simp only [putAll, Act.put, List.setIfInBounds_toArray, List.set_cons_zero, List.set_cons_succ]; try rfl) (hCont ⟨A133, c134, A156, c157, A158, c159, _⟩ _ H)
      · skip
        refine value_ (w1 := ?_) (v := ?_) (by rfl) rfl ?_ ?_
        rotate_left 2
        · go_simp
          constructor
          · rfl
          · rfl
        replace H := H.newbox rfl (blk_new _ (.cells #[.bool false, .slice none 0 0, .bool false, .slice none 0 0] 51 (0, 0))) (below_alloc (Below.refl _ _) _)
        refine hK.out _ _ ⟨H.cell m3 0, H.cell m3 1, H.cell m3 2, H.cell m3 3, H.cell m2 0, H.cell m2 1⟩ (fun hQ => ?_)
        clear hK K
        refine norm_ (a' := ?_) ?_ ?_
        rotate_left
        · show Act.put _ (some 8) _ = _
          simp only [Act.put, List.setIfInBounds_toArray, List.set_cons_zero, List.set_cons_succ, i64_w, i32_w]
          rfl
        refine one_ (i := 3) (N := some 36) (bm 10 143) rfl rfl (one_of HT_.out (by kernel_rfl)) (by decide) (fun K hK => ?_)
        refine goes_ Try.func63 (by kernel_rfl) rfl #[.agg #[.bool (ng c), .slice A133 (ln c) c134], .agg #[.bool (ng i), .slice A15 (ln i) c16]] (by rfl) rfl rfl (by simp only [List.map_toArray, List.map_cons, List.map_nil]; try rfl) ?_
        with_reducible refine (MakeQ (H.row _ m0) (H.row _ m4) (lim bc.out (by decide)) (lim bi.out (by decide)) c1 j2 0 hhi.out.1 hhi.out.2.1 hhi.out.2.2).mono ?_
        rintro e w155 ⟨A156, c157, A158, c159, rfl, hr, hr2, hb⟩
        replace H := (H.got hr hb).more ((H.got hr2 hb).row _ m0)
        clear hr hr2 hb
        refine ⟨_, rfl, ?_⟩
        refine hK.out _ _ ⟨H.cell m3 0, H.cell m3 1, H.cell m3 2, H.cell m3 3, H.cell m2 0, H.cell m2 1⟩ (fun hQ => ?_)
        clear hK K
        refine norm_ (a' := ?_) ?_ ?_
        rotate_left
        · show Act.put _ (some 36) _ = _
          simp only [Act.put, List.setIfInBounds_toArray, List.set_cons_zero, List.set_cons_succ, i64_w, i32_w]
          rfl
        refine pure_ (i := 4) (N := some 32) (v := ?_) (a' := ?_) (bm 10 159) rfl rfl (any_of HT_.out (by kernel_rfl)) (fun _ _ _ h => h) (Or.inl ⟨by rfl, ?_⟩) ?_ ?_
        rotate_left
        · intro w'
          go_simp
          with_reducible rfl
        rotate_left
        · simp only [Act.put, List.setIfInBounds_toArray, List.set_cons_zero, List.set_cons_succ, i64_w, i32_w]
          rfl
        refine pure_ (i := 5) (N := some 37) (v := ?_) (a' := ?_) (bm 10 191) rfl rfl (any_of HT_.out (by kernel_rfl)) (fun _ _ _ h => h) (Or.inl ⟨by rfl, ?_⟩) ?_ ?_
        rotate_left
        · intro w'
          go_simp
          with_reducible rfl
        rotate_left
        · simp only [Act.put, List.setIfInBounds_toArray, List.set_cons_zero, List.set_cons_succ, i64_w, i32_w]
          rfl
        refine pure_ (i := 6) (N := some 38) (v := ?_) (a' := ?_) (bm 10 255) rfl rfl (any_of HT_.out (by kernel_rfl)) (fun _ _ _ h => h) (Or.inl ⟨by rfl, ?_⟩) ?_ ?_
        rotate_left
        · intro w'
          go_simp
          with_reducible rfl
        rotate_left
        · simp only [Act.put, List.setIfInBounds_toArray, List.set_cons_zero, List.set_cons_succ, i64_w, i32_w]
          rfl
        exact norm_ (by simp only [putAll, Act.put, List.setIfInBounds_toArray, List.set_cons_zero, List.set_cons_succ]; try rfl) (hCont ⟨A133, c134, A156, c157, A158, c159, _⟩ _ H)
    · skip
      refine value_ (w1 := ?_) (v := ?_) (by rfl) rfl ?_ ?_
      rotate_left 2
      · go_simp
        constructor
        · rfl
        · rfl
      replace H := H.newbox rfl (blk_new _ (.cells #[.bool false, .slice none 0 0, .bool false, .slice none 0 0] 51 (0, 0))) (below_alloc (Below.refl _ _) _)
      refine hK.out _ _ ⟨H.cell m3 0, H.cell m3 1, H.cell m3 2, H.cell m3 3, H.cell m2 0, H.cell m2 1⟩ (fun hQ => ?_)
      clear hK K
      refine norm_ (a' := ?_) ?_ ?_
      rotate_left
      · show Act.put _ (some 8) _ = _
        simp only [Act.put, List.setIfInBounds_toArray, List.set_cons_zero, List.set_cons_succ, i64_w, i32_w]
        rfl
      refine one_ (i := 1) (N := some 34) (bm 10 135) rfl rfl (one_of HT_.out (by kernel_rfl)) (by decide) (fun K hK => ?_)
      refine goes_ Try.func48 (by kernel_rfl) rfl #[.agg #[.bool (ng n), .slice A4 (ln n) c5, .bool (ng d), .slice A6 (ln d) c7]] (by rfl) rfl rfl (by simp only [List.map_toArray, List.map_cons, List.map_nil]; try rfl) ?_
      with_reducible refine (CeilR (H.row _ m5) (H.row _ m4) (limR bn.out (by decide)) (limR bd.out (by decide)) c hc.out).mono ?_
      rintro e w132 ⟨A133, c134, rfl, hr, hb⟩
      replace H := H.got hr hb
      clear hr hb
      refine ⟨_, rfl, ?_⟩
      refine hK.out _ _ ⟨H.cell m3 0, H.cell m3 1, H.cell m3 2, H.cell m3 3, H.cell m2 0, H.cell m2 1⟩ (fun hQ => ?_)
      clear hK K
      refine norm_ (a' := ?_) ?_ ?_
      rotate_left
      · show Act.put _ (some 34) _ = _
        simp only [Act.put, List.setIfInBounds_toArray, List.set_cons_zero, List.set_cons_succ, i64_w, i32_w]
        rfl
      refine one_ (i := 3) (N := some 36) (bm 10 143) rfl rfl (one_of HT_.out (by kernel_rfl)) (by decide) (fun K hK => ?_)
      refine goes_ Try.func63 (by kernel_rfl) rfl #[.agg #[.bool (ng c), .slice A133 (ln c) c134], .agg #[.bool (ng i), .slice A15 (ln i) c16]] (by rfl) rfl rfl (by simp only [List.map_toArray, List.map_cons, List.map_nil]; try rfl) ?_
      with_reducible refine (MakeQ (H.row _ m0) (H.row _ m4) (lim bc.out (by decide)) (lim bi.out (by decide)) c1 j2 0 hhi.out.1 hhi.out.2.1 hhi.out.2.2).mono ?_
      rintro e w155 ⟨A156, c157, A158, c159, rfl, hr, hr2, hb⟩
      replace H := (H.got hr hb).more ((H.got hr2 hb).row _ m0)
      clear hr hr2 hb
      refine ⟨_, rfl, ?_⟩
      refine hK.out _ _ ⟨H.cell m3 0, H.cell m3 1, H.cell m3 2, H.cell m3 3, H.cell m2 0, H.cell m2 1⟩ (fun hQ => ?_)
      clear hK K
      refine norm_ (a' := ?_) ?_ ?_
      rotate_left
      · show Act.put _ (some 36) _ = _
        simp only [Act.put, List.setIfInBounds_toArray, List.set_cons_zero, List.set_cons_succ, i64_w, i32_w]
        rfl
      refine pure_ (i := 4) (N := some 32) (v := ?_) (a' := ?_) (bm 10 159) rfl rfl (any_of HT_.out (by kernel_rfl)) (fun _ _ _ h => h) (Or.inl ⟨by rfl, ?_⟩) ?_ ?_
      rotate_left
      · intro w'
        go_simp
        with_reducible rfl
      rotate_left
      · simp only [Act.put, List.setIfInBounds_toArray, List.set_cons_zero, List.set_cons_succ, i64_w, i32_w]
        rfl
      refine pure_ (i := 5) (N := some 37) (v := ?_) (a' := ?_) (bm 10 191) rfl rfl (any_of HT_.out (by kernel_rfl)) (fun _ _ _ h => h) (Or.inl ⟨by rfl, ?_⟩) ?_ ?_
      rotate_left
      · intro w'
        go_simp
        with_reducible rfl
      rotate_left
      · simp only [Act.put, List.setIfInBounds_toArray, List.set_cons_zero, List.set_cons_succ, i64_w, i32_w]
        rfl
      refine pure_ (i := 6) (N := some 38) (v := ?_) (a' := ?_) (bm 10 255) rfl rfl (any_of HT_.out (by kernel_rfl)) (fun _ _ _ h => h) (Or.inl ⟨by rfl, ?_⟩) ?_ ?_
      rotate_left
      · intro w'
        go_simp
        with_reducible rfl
      rotate_left
      · simp only [Act.put, List.setIfInBounds_toArray, List.set_cons_zero, List.set_cons_succ, i64_w, i32_w]
        rfl
      exact norm_ (by simp only [putAll, Act.put, List.setIfInBounds_toArray, List.set_cons_zero, List.set_cons_succ]; try rfl) (hCont ⟨A133, c134, A156, c157, A158, c159, _⟩ _ H)
  rintro ⟨A133, c134, A156, c157, A158, c159, g8⟩ wF H
  clear hQ
  have hQ := (show wF.cell? ⟨g3, 0, none⟩ = some (.bool (ng n)) ∧ wF.cell? ⟨g3, 1, none⟩ = some (.slice A4 (ln n) c5) ∧ wF.cell? ⟨g3, 2, none⟩ = some (.bool (ng d)) ∧ wF.cell? ⟨g3, 3, none⟩ = some (.slice A6 (ln d) c7) ∧ wF.cell? ⟨g5, 0, none⟩ = some (.bool (ng i)) ∧ wF.cell? ⟨g5, 1, none⟩ = some (.slice A15 (ln i) c16) from ⟨H.cell m3 0, H.cell m3 1, H.cell m3 2, H.cell m3 3, H.cell m2 0, H.cell m2 1⟩)
  refine norm_ (a' := ?_) ?_ ?_
  rotate_left
  · simp only [putAll, Act.put, List.setIfInBounds_toArray, List.set_cons_zero, List.set_cons_succ]
    rfl
  refine last_ (i := 8) (N := none) (bm 10 511) rfl rfl (one_of HT_.out (by kernel_rfl)) (by decide) (fun K hK => ?_)
  obtain ⟨k8_0, z8_0, k8_1, z8_1, k8_2, z8_2, k8_3, z8_3⟩ := H.b4 (g := g8) m0
  obtain ⟨k5_0, z5_0, k5_1, z5_1⟩ := H.b2 (g := g5) m2
  obtain ⟨k3_0, z3_0, k3_1, z3_1, k3_2, z3_2, k3_3, z3_3⟩ := H.b4 (g := g3) m3
  refine skip_ (w1 := ?_) (by rfl) rfl ?_ ?_
  rotate_left
  · go_simp
    rfl
  refine hK.out _ _ ?_
  clear hK K
  refine pure_ (i := 9) (N := some 9) (v := ?_) (a' := ?_) (bm 10 1023) rfl rfl (any_of HT_.out (by kernel_rfl)) (fun _ _ _ h => h) (Or.inl ⟨by rfl, ?_⟩) ?_ ?_
  rotate_left
  · intro w'
    go_simp
    with_reducible rfl
  rotate_left
  · simp only [Act.put, List.setIfInBounds_toArray, List.set_cons_zero, List.set_cons_succ, i64_w, i32_w]
    rfl
  refine done_ (done_of HT_.out (by kernel_rfl)) ?_
  try clear hQ
  replace H := ((((H.setn [] 0 (.bool (ng c1)) rfl).setn [] 1 (.slice A156 (ln c1) c157) rfl).setn [] 2 (.bool (ng j2)) rfl).setn [] 3 (.slice A158 (ln j2) c159) rfl)
  clear k8_0 z8_0 k8_1 z8_1 k8_2 z8_2 k8_3 z8_3 k5_0 z5_0 k5_1 z5_1 k3_0 z3_0 k3_1 z3_1 k3_2 z3_2 k3_3 z3_3
  generalize ((((wF.setCell ⟨g8, 0, none⟩ (.bool (ng c1))).setCell ⟨g8, 1, none⟩ (.slice A156 (ln c1) c157)).setCell ⟨g8, 2, none⟩ (.bool (ng j2))).setCell ⟨g8, 3, none⟩ (.slice A158 (ln j2) c159)) = w200 at H ⊢
  obtain ⟨k8_0, z8_0, k8_1, z8_1, k8_2, z8_2, k8_3, z8_3⟩ := H.b4 (g := g8) m0
  obtain ⟨k6_0, z6_0, k6_1, z6_1, k6_2, z6_2, k6_3, z6_3⟩ := H.b4 (g := g6) m1
  obtain ⟨k5_0, z5_0, k5_1, z5_1⟩ := H.b2 (g := g5) m2
  obtain ⟨k3_0, z3_0, k3_1, z3_1, k3_2, z3_2, k3_3, z3_3⟩ := H.b4 (g := g3) m3
  go_upto_region 9 with fail
  (try simp only [Act.put, List.setIfInBounds_toArray, List.set_cons_zero, List.set_cons_succ])
  clear k8_0 z8_0 k8_1 z8_1 k8_2 z8_2 k8_3 z8_3 k6_0 z6_0 k6_1 z6_1 k6_2 z6_2 k6_3 z6_3 k5_0 z5_0 k5_1 z5_1 k3_0 z3_0 k3_1 z3_1 k3_2 z3_2 k3_3 z3_3
  replace H := H.drew
  refine start_ (n := 28) (S := fun w' => w'.cell? ⟨g6, 0, none⟩ = some (.bool (ng f1)) ∧ w'.cell? ⟨g6, 1, none⟩ = some (.slice A66 (ln f1) c67) ∧ w'.cell? ⟨g6, 2, none⟩ = some (.bool (ng j1)) ∧ w'.cell? ⟨g6, 3, none⟩ = some (.slice A68 (ln j1) c69) ∧ w'.cell? ⟨g3, 0, none⟩ = some (.bool (ng n)) ∧ w'.cell? ⟨g3, 1, none⟩ = some (.slice A4 (ln n) c5) ∧ w'.cell? ⟨g3, 2, none⟩ = some (.bool (ng d)) ∧ w'.cell? ⟨g3, 3, none⟩ = some (.slice A6 (ln d) c7) ∧ w'.cell? ⟨g8, 0, none⟩ = some (.bool (ng c1)) ∧ w'.cell? ⟨g8, 1, none⟩ = some (.slice A156 (ln c1) c157) ∧ w'.cell? ⟨g8, 2, none⟩ = some (.bool (ng j2)) ∧ w'.cell? ⟨g8, 3, none⟩ = some (.slice A158 (ln j2) c159)) (ds := []) #[false, false, false, false, false, false, false, false, false, false, false, false, false, false, false, false, false, false, false, false, false, false, false, false, false, false, false, false] (by kernel_rfl) rfl rfl ⟨H.cell m1 0, H.cell m1 1, H.cell m1 2, H.cell m1 3, H.cell m3 0, H.cell m3 1, H.cell m3 2, H.cell m3 3, H.cell m0 0, H.cell m0 1, H.cell m0 2, H.cell m0 3⟩ (fun hQ => ?_)
  generalize w200.drew = w201 at H hQ ⊢
  refine with_tabW tb18.tab9 tb18.bits9 (fun HT_ HW_ => ?_)
  refine pure_ (i := 0) (N := some 39) (v := ?_) (a' := ?_) (bm 28 1) rfl rfl (any_of HT_.out (by kernel_rfl)) (fun _ _ _ h => h) (Or.inl ⟨by rfl, ?_⟩) ?_ ?_
  rotate_left
  · intro w'
    go_simp
    with_reducible rfl
  rotate_left
  · simp only [Act.put, List.setIfInBounds_toArray, List.set_cons_zero, List.set_cons_succ, i64_w, i32_w]
    rfl
  refine pure_ (i := 1) (N := some 40) (v := ?_) (a' := ?_) (bm 28 3) rfl rfl (any_of HT_.out (by kernel_rfl)) (fun _ _ _ h => h) (Or.inl ⟨by rfl, ?_⟩) ?_ ?_
  rotate_left
  · intro w'
    go_simp
    with_reducible rfl
  rotate_left
  · simp only [Act.put, List.setIfInBounds_toArray, List.set_cons_zero, List.set_cons_succ, i64_w, i32_w]
    rfl
  refine pure_ (i := 2) (N := some 41) (v := ?_) (a' := ?_) (bm 28 7) rfl rfl (any_of HT_.out (by kernel_rfl)) (fun _ _ _ h => h) (Or.inl ⟨by rfl, ?_⟩) ?_ ?_
  rotate_left
  · intro w'
    go_simp
    with_reducible rfl
  rotate_left
  · simp only [Act.put, List.setIfInBounds_toArray, List.set_cons_zero, List.set_cons_succ, i64_w, i32_w]
    rfl
  refine pure_ (i := 3) (N := some 42) (v := ?_) (a' := ?_) (bm 28 15) rfl rfl (any_of HT_.out (by kernel_rfl)) (fun _ _ _ h => h) (Or.inl ⟨by rfl, ?_⟩) ?_ ?_
  rotate_left
  · intro w'
    go_simp
    with_reducible rfl
  rotate_left
  · simp only [Act.put, List.setIfInBounds_toArray, List.set_cons_zero, List.set_cons_succ, i64_w, i32_w]
    rfl
  refine pure_ (i := 4) (N := some 43) (v := ?_) (a' := ?_) (bm 28 31) rfl rfl (any_of HT_.out (by kernel_rfl)) (fun _ _ _ h => h) (Or.inl ⟨by rfl, ?_⟩) ?_ ?_
  rotate_left
  · intro w'
    go_simp
    with_reducible rfl
  rotate_left
  · simp only [Act.put, List.setIfInBounds_toArray, List.set_cons_zero, List.set_cons_succ, i64_w, i32_w]
    rfl
  refine pure_ (i := 5) (N := some 44) (v := ?_) (a' := ?_) (bm 28 63) rfl rfl (any_of HT_.out (by kernel_rfl)) (fun _ _ _ h => h) (Or.inl ⟨by rfl, ?_⟩) ?_ ?_
  rotate_left
  · intro w'
    go_simp
    with_reducible rfl
  rotate_left
  · simp only [Act.put, List.setIfInBounds_toArray, List.set_cons_zero, List.set_cons_succ, i64_w, i32_w]
    rfl
  refine pure_ (i := 6) (N := some 45) (v := ?_) (a' := ?_) (bm 28 127) rfl rfl (any_of HT_.out (by kernel_rfl)) (fun _ _ _ h => h) (Or.inl ⟨by rfl, ?_⟩) ?_ ?_
  rotate_left
  · intro w'
    go_simp
    with_reducible rfl
  rotate_left
  · simp only [Act.put, List.setIfInBounds_toArray, List.set_cons_zero, List.set_cons_succ, i64_w, i32_w]
    rfl
  refine take_ (i := 7) (N := some 46) (v := ?_) (a' := ?_) (bm 28 255) rfl rfl (take_ofW HT_.out HW_.out (by kernel_rfl)) (fun _ _ _ h => h) (Or.inl ⟨by rfl, ?_⟩) hQ ?_ ?_
  rotate_left
  · rintro w' ⟨s0, s1, s2, s3, s4, s5, s6, s7, s8, s9, s10, s11⟩
    go_simp
    with_reducible rfl
  rotate_left
  · simp only [Act.put, List.setIfInBounds_toArray, List.set_cons_zero, List.set_cons_succ, i64_w, i32_w]
    rfl
  refine take_ (i := 8) (N := some 47) (v := ?_) (a' := ?_) (bm 28 511) rfl rfl (take_ofW HT_.out HW_.out (by kernel_rfl)) (fun _ _ _ h => h) (Or.inl ⟨by rfl, ?_⟩) hQ ?_ ?_
  rotate_left
  · rintro w' ⟨s0, s1, s2, s3, s4, s5, s6, s7, s8, s9, s10, s11⟩
    go_simp
    with_reducible rfl
  rotate_left
  · simp only [Act.put, List.setIfInBounds_toArray, List.set_cons_zero, List.set_cons_succ, i64_w, i32_w]
    rfl
  refine one_ (i := 9) (N := some 48) (bm 28 1023) rfl rfl (one_of HT_.out (by kernel_rfl)) (by decide) (fun K hK => ?_)
  refine goes_ Try.func66 (by kernel_rfl) rfl #[.agg #[.bool (ng f1), .slice A66 (ln f1) c67, .bool (ng j1), .slice A68 (ln j1) c69], .agg #[.bool (ng n), .slice A4 (ln n) c5, .bool (ng d), .slice A6 (ln d) c7]] (by rfl) rfl rfl (by simp only [List.map_toArray, List.map_cons, List.map_nil]; try rfl) ?_
  with_reducible refine (CmpR (H.row _ m4) (H.row _ m3) (H.row _ m8) (H.row _ m7) (limR bf1.out (by decide)) (limR bj1.out (by decide)) (limR bn.out (by decide)) (limR bd.out (by decide)) k1 hk1.out).mono ?_
  rintro e w202 ⟨rfl, hb⟩
  replace H := H.call hb
  clear hb
  refine ⟨_, rfl, ?_⟩
  refine hK.out _ _ ⟨H.cell m1 0, H.cell m1 1, H.cell m1 2, H.cell m1 3, H.cell m3 0, H.cell m3 1, H.cell m3 2, H.cell m3 3, H.cell m0 0, H.cell m0 1, H.cell m0 2, H.cell m0 3⟩ (fun hQ => ?_)
  clear hK K
  refine norm_ (a' := ?_) ?_ ?_
  rotate_left
  · show Act.put _ (some 48) _ = _
    simp only [Act.put, List.setIfInBounds_toArray, List.set_cons_zero, List.set_cons_succ, i64_w, i32_w]
    rfl
  refine pure_ (i := 10) (N := some 49) (v := ?_) (a' := ?_) (bm 28 2047) rfl rfl (any_of HT_.out (by kernel_rfl)) (fun _ _ _ h => h) (Or.inl ⟨by rfl, ?_⟩) ?_ ?_
  rotate_left
  · intro w'
    go_simp
    with_reducible rfl
  rotate_left
  · simp only [Act.put, List.setIfInBounds_toArray, List.set_cons_zero, List.set_cons_succ, i64_w, i32_w]
    rfl
  refine pure_ (i := 11) (N := some 50) (v := ?_) (a' := ?_) (bm 28 4095) rfl rfl (any_of HT_.out (by kernel_rfl)) (fun _ _ _ h => h) (Or.inl ⟨by rfl, ?_⟩) ?_ ?_
  rotate_left
  · intro w'
    go_simp
    with_reducible rfl
  rotate_left
  · simp only [Act.put, List.setIfInBounds_toArray, List.set_cons_zero, List.set_cons_succ, i64_w, i32_w]
    rfl
  refine pure_ (i := 12) (N := some 51) (v := ?_) (a' := ?_) (bm 28 8191) rfl rfl (any_of HT_.out (by kernel_rfl)) (fun _ _ _ h => h) (Or.inl ⟨by rfl, ?_⟩) ?_ ?_
  rotate_left
  · intro w'
    go_simp
    with_reducible rfl
  rotate_left
  · simp only [Act.put, List.setIfInBounds_toArray, List.set_cons_zero, List.set_cons_succ, i64_w, i32_w]
    rfl
  refine take_ (i := 13) (N := some 52) (v := ?_) (a' := ?_) (bm 28 16383) rfl rfl (take_ofW HT_.out HW_.out (by kernel_rfl)) (fun _ _ _ h => h) (Or.inl ⟨by rfl, ?_⟩) hQ ?_ ?_
  rotate_left
  · rintro w' ⟨s0, s1, s2, s3, s4, s5, s6, s7, s8, s9, s10, s11⟩
    go_simp
    with_reducible rfl
  rotate_left
  · simp only [Act.put, List.setIfInBounds_toArray, List.set_cons_zero, List.set_cons_succ, i64_w, i32_w]
    rfl
  refine take_ (i := 14) (N := some 53) (v := ?_) (a' := ?_) (bm 28 32767) rfl rfl (take_ofW HT_.out HW_.out (by kernel_rfl)) (fun _ _ _ h => h) (Or.inl ⟨by rfl, ?_⟩) hQ ?_ ?_
  rotate_left
  · rintro w' ⟨s0, s1, s2, s3, s4, s5, s6, s7, s8, s9, s10, s11⟩
    go_simp
    with_reducible rfl
  rotate_left
  · simp only [Act.put, List.setIfInBounds_toArray, List.set_cons_zero, List.set_cons_succ, i64_w, i32_w]
    rfl
  refine one_ (i := 15) (N := some 54) (bm 28 65535) rfl rfl (one_of HT_.out (by kernel_rfl)) (by decide) (fun K hK => ?_)
  refine goes_ Try.func66 (by kernel_rfl) rfl #[.agg #[.bool (ng c1), .slice A156 (ln c1) c157, .bool (ng j2), .slice A158 (ln j2) c159], .agg #[.bool (ng n), .slice A4 (ln n) c5, .bool (ng d), .slice A6 (ln d) c7]] (by rfl) rfl rfl (by simp only [List.map_toArray, List.map_cons, List.map_nil]; try rfl) ?_
  with_reducible refine (CmpR (H.row _ m1) (H.row _ m0) (H.row _ m8) (H.row _ m7) (limR bc1.out (by decide)) (limR bj2.out (by decide)) (limR bn.out (by decide)) (limR bd.out (by decide)) k2 hk2.out).mono ?_
  rintro e w203 ⟨rfl, hb⟩
  replace H := H.call hb
  clear hb
  refine ⟨_, rfl, ?_⟩
  refine hK.out _ _ ⟨H.cell m1 0, H.cell m1 1, H.cell m1 2, H.cell m1 3, H.cell m3 0, H.cell m3 1, H.cell m3 2, H.cell m3 3, H.cell m0 0, H.cell m0 1, H.cell m0 2, H.cell m0 3⟩ (fun hQ => ?_)
  clear hK K
  refine norm_ (a' := ?_) ?_ ?_
  rotate_left
  · show Act.put _ (some 54) _ = _
    simp only [Act.put, List.setIfInBounds_toArray, List.set_cons_zero, List.set_cons_succ, i64_w, i32_w]
    rfl
  refine pure_ (i := 16) (N := some 55) (v := ?_) (a' := ?_) (bm 28 131071) rfl rfl (any_of HT_.out (by kernel_rfl)) (fun _ _ _ h => h) (Or.inl ⟨by rfl, ?_⟩) ?_ ?_
  rotate_left
  · intro w'
    go_simp
    with_reducible rfl
  rotate_left
  · simp only [Act.put, List.setIfInBounds_toArray, List.set_cons_zero, List.set_cons_succ, i64_w, i32_w]
    rfl
  refine pure_ (i := 17) (N := some 56) (v := ?_) (a' := ?_) (bm 28 262143) rfl rfl (any_of HT_.out (by kernel_rfl)) (fun _ _ _ h => h) (Or.inl ⟨by rfl, ?_⟩) ?_ ?_
  rotate_left
  · intro w'
    go_simp
    with_reducible rfl
  rotate_left
  · simp only [Act.put, List.setIfInBounds_toArray, List.set_cons_zero, List.set_cons_succ, i64_w, i32_w]
    rfl
  refine pure_ (i := 18) (N := some 57) (v := ?_) (a' := ?_) (bm 28 524287) rfl rfl (any_of HT_.out (by kernel_rfl)) (fun _ _ _ h => h) (Or.inl ⟨by rfl, ?_⟩) ?_ ?_
  rotate_left
  · intro w'
    go_simp
    with_reducible rfl
  rotate_left
  · simp only [Act.put, List.setIfInBounds_toArray, List.set_cons_zero, List.set_cons_succ, i64_w, i32_w]
    rfl
  refine take_ (i := 19) (N := some 58) (v := ?_) (a' := ?_) (bm 28 1048575) rfl rfl (take_ofW HT_.out HW_.out (by kernel_rfl)) (fun _ _ _ h => h) (Or.inl ⟨by rfl, ?_⟩) hQ ?_ ?_
  rotate_left
  · rintro w' ⟨s0, s1, s2, s3, s4, s5, s6, s7, s8, s9, s10, s11⟩
    go_simp
    with_reducible rfl
  rotate_left
  · simp only [Act.put, List.setIfInBounds_toArray, List.set_cons_zero, List.set_cons_succ, i64_w, i32_w]
    rfl
  refine take_ (i := 23) (N := some 62) (v := ?_) (a' := ?_) (bm 28 9437183) rfl rfl (take_ofW HT_.out HW_.out (by kernel_rfl)) (fun _ _ _ h => h) (Or.inl ⟨by rfl, ?_⟩) hQ ?_ ?_
  rotate_left
  · rintro w' ⟨s0, s1, s2, s3, s4, s5, s6, s7, s8, s9, s10, s11⟩
    go_simp
    with_reducible rfl
  rotate_left
  · simp only [Act.put, List.setIfInBounds_toArray, List.set_cons_zero, List.set_cons_succ, i64_w, i32_w]
    rfl
  refine one_ (i := 20) (N := some 59) (bm 28 10485759) rfl rfl (one_of HT_.out (by kernel_rfl)) (by decide) (fun K hK => ?_)
  refine goes_ Try.func51 (by kernel_rfl) rfl #[.agg #[.bool (ng n), .slice A4 (ln n) c5, .bool (ng d), .slice A6 (ln d) c7]] (by rfl) rfl rfl (by simp only [List.map_toArray, List.map_cons, List.map_nil]; try rfl) ?_
  with_reducible refine (NegR (H.row _ m8) (H.row _ m7) (limR bn.out (by decide)) (limR bd.out (by decide)) n2 d9 ⟨hn2.out, hd9.out⟩).mono ?_
  rintro e w204 ⟨A205, c206, A207, c208, rfl, hr, hr2, hb⟩
  replace H := (H.got hr hb).more ((H.got hr2 hb).row _ m0)
  clear hr hr2 hb
  refine ⟨_, rfl, ?_⟩
  refine hK.out _ _ ⟨H.cell m1 0, H.cell m1 1, H.cell m1 2, H.cell m1 3, H.cell m3 0, H.cell m3 1, H.cell m3 2, H.cell m3 3, H.cell m0 0, H.cell m0 1, H.cell m0 2, H.cell m0 3⟩ (fun hQ => ?_)
  clear hK K
  refine norm_ (a' := ?_) ?_ ?_
  rotate_left
  · show Act.put _ (some 59) _ = _
    simp only [Act.put, List.setIfInBounds_toArray, List.set_cons_zero, List.set_cons_succ, i64_w, i32_w]
    rfl
  refine one_ (i := 21) (N := some 60) (bm 28 12582911) rfl rfl (one_of HT_.out (by kernel_rfl)) (by decide) (fun K hK => ?_)
  refine goes_ Try.func43 (by kernel_rfl) rfl #[.agg #[.bool (ng n2), .slice A205 (ln n2) c206, .bool (ng d9), .slice A207 (ln d9) c208]] (by rfl) rfl rfl (by simp only [List.map_toArray, List.map_cons, List.map_nil]; try rfl) ?_
  with_reducible refine (FloorR (H.row _ m1) (H.row _ m0) (limR bn2.out (by decide)) (limR bd9.out (by decide)) f2 hf2.out).mono ?_
  rintro e w209 ⟨A210, c211, rfl, hr, hb⟩
  replace H := H.got hr hb
  clear hr hb
  refine ⟨_, rfl, ?_⟩
  refine hK.out _ _ ⟨H.cell m1 0, H.cell m1 1, H.cell m1 2, H.cell m1 3, H.cell m3 0, H.cell m3 1, H.cell m3 2, H.cell m3 3, H.cell m0 0, H.cell m0 1, H.cell m0 2, H.cell m0 3⟩ (fun hQ => ?_)
  clear hK K
  refine norm_ (a' := ?_) ?_ ?_
  rotate_left
  · show Act.put _ (some 60) _ = _
    simp only [Act.put, List.setIfInBounds_toArray, List.set_cons_zero, List.set_cons_succ, i64_w, i32_w]
    rfl
  refine one_ (i := 22) (N := some 61) (bm 28 16777215) rfl rfl (one_of HT_.out (by kernel_rfl)) (by decide) (fun K hK => ?_)
  refine goes_ Try.func37 (by kernel_rfl) rfl #[.agg #[.bool (ng f2), .slice A210 (ln f2) c211]] (by rfl) rfl rfl (by simp only [List.map_toArray, List.map_cons, List.map_nil]; try rfl) ?_
  with_reducible refine (NegQ (H.row _ m0) (lim bf2.out (by decide)) c2 h_c2.out).mono ?_
  rintro e w212 ⟨A213, c214, rfl, hr, hb⟩
  replace H := H.got hr hb
  clear hr hb
  refine ⟨_, rfl, ?_⟩
  refine hK.out _ _ ⟨H.cell m1 0, H.cell m1 1, H.cell m1 2, H.cell m1 3, H.cell m3 0, H.cell m3 1, H.cell m3 2, H.cell m3 3, H.cell m0 0, H.cell m0 1, H.cell m0 2, H.cell m0 3⟩ (fun hQ => ?_)
  clear hK K
  refine norm_ (a' := ?_) ?_ ?_
  rotate_left
  · show Act.put _ (some 61) _ = _
    simp only [Act.put, List.setIfInBounds_toArray, List.set_cons_zero, List.set_cons_succ, i64_w, i32_w]
    rfl
  refine one_ (i := 24) (N := some 63) (bm 28 33554431) rfl rfl (one_of HT_.out (by kernel_rfl)) (by decide) (fun K hK => ?_)
  refine goes_ Try.func48 (by kernel_rfl) rfl #[.agg #[.bool (ng n), .slice A4 (ln n) c5, .bool (ng d), .slice A6 (ln d) c7]] (by rfl) rfl rfl (by simp only [List.map_toArray, List.map_cons, List.map_nil]; try rfl) ?_
  with_reducible refine (CeilR (H.row _ (mt (mt m10))) (H.row _ (mt m10)) (limR bn.out (by decide)) (limR bd.out (by decide)) c hc.out).mono ?_
  rintro e w215 ⟨A216, c217, rfl, hr, hb⟩
  replace H := H.got hr hb
  clear hr hb
  refine ⟨_, rfl, ?_⟩
  refine hK.out _ _ ⟨H.cell m1 0, H.cell m1 1, H.cell m1 2, H.cell m1 3, H.cell m3 0, H.cell m3 1, H.cell m3 2, H.cell m3 3, H.cell m0 0, H.cell m0 1, H.cell m0 2, H.cell m0 3⟩ (fun hQ => ?_)
  clear hK K
  refine norm_ (a' := ?_) ?_ ?_
  rotate_left
  · show Act.put _ (some 63) _ = _
    simp only [Act.put, List.setIfInBounds_toArray, List.set_cons_zero, List.set_cons_succ, i64_w, i32_w]
    rfl
  refine one_ (i := 25) (N := some 64) (bm 28 67108863) rfl rfl (one_of HT_.out (by kernel_rfl)) (by decide) (fun K hK => ?_)
  refine goes_ Try.func34 (by kernel_rfl) rfl #[.agg #[.bool (ng c2), .slice A213 (ln c2) c214], .agg #[.bool (ng c), .slice A216 (ln c) c217]] (by rfl) rfl rfl (by simp only [List.map_toArray, List.map_cons, List.map_nil]; try rfl) ?_
  with_reducible refine (CmpQ (H.row _ m1) (H.row _ m0) (lim bc2.out (by decide)) (lim bc.out (by decide)) 0 hk3.out).mono ?_
  rintro e w218 ⟨rfl, hb⟩
  replace H := H.call hb
  clear hb
  refine ⟨_, rfl, ?_⟩
  refine hK.out _ _ ⟨H.cell m1 0, H.cell m1 1, H.cell m1 2, H.cell m1 3, H.cell m3 0, H.cell m3 1, H.cell m3 2, H.cell m3 3, H.cell m0 0, H.cell m0 1, H.cell m0 2, H.cell m0 3⟩ (fun hQ => ?_)
  clear hK K
  refine norm_ (a' := ?_) ?_ ?_
  rotate_left
  · show Act.put _ (some 64) _ = _
    simp only [Act.put, List.setIfInBounds_toArray, List.set_cons_zero, List.set_cons_succ, i64_w, i32_w]
    rfl
  refine pure_ (i := 26) (N := some 65) (v := ?_) (a' := ?_) (bm 28 134217727) rfl rfl (any_of HT_.out (by kernel_rfl)) (fun _ _ _ h => h) (Or.inl ⟨by rfl, ?_⟩) ?_ ?_
  rotate_left
  · intro w'
    go_simp
    with_reducible rfl
  rotate_left
  · simp only [Act.put, List.setIfInBounds_toArray, List.set_cons_zero, List.set_cons_succ, i64_w, i32_w]
    rfl
  refine pure_ (i := 27) (N := some 66) (v := ?_) (a' := ?_) (bm 28 268435455) rfl rfl (any_of HT_.out (by kernel_rfl)) (fun _ _ _ h => h) (Or.inl ⟨by rfl, ?_⟩) ?_ ?_
  rotate_left
  · intro w'
    go_simp
    with_reducible rfl
  rotate_left
  · simp only [Act.put, List.setIfInBounds_toArray, List.set_cons_zero, List.set_cons_succ, i64_w, i32_w]
    rfl
  refine done_ (done_of HT_.out (by kernel_rfl)) ?_
  try clear hQ
  go_upto_region 11 with fail
  (try simp only [Act.put, List.setIfInBounds_toArray, List.set_cons_zero, List.set_cons_succ])
  replace H := H.drew
  refine start_ (n := 6) (S := fun w' => w'.cell? ⟨g3, 0, none⟩ = some (.bool (ng n)) ∧ w'.cell? ⟨g3, 1, none⟩ = some (.slice A4 (ln n) c5) ∧ w'.cell? ⟨g3, 2, none⟩ = some (.bool (ng d)) ∧ w'.cell? ⟨g3, 3, none⟩ = some (.slice A6 (ln d) c7) ∧ w'.cell? ⟨g5, 0, none⟩ = some (.bool (ng i)) ∧ w'.cell? ⟨g5, 1, none⟩ = some (.slice A15 (ln i) c16)) (ds := []) #[false, false, false, false, false, false] (by kernel_rfl) rfl rfl ⟨H.cell m3 0, H.cell m3 1, H.cell m3 2, H.cell m3 3, H.cell m2 0, H.cell m2 1⟩ (fun hQ => ?_)
  generalize w218.drew = w219 at H hQ ⊢
  refine take_ (i := 0) (N := some 67) (v := ?_) (a' := ?_) #[true, false, false, false, false, false] rfl rfl (by kernel_rfl) (fun _ _ _ h => h) (Or.inl ⟨by rfl, ?_⟩) hQ ?_ ?_
  rotate_left
  · rintro w' ⟨s0, s1, s2, s3, s4, s5⟩
    go_simp
    with_reducible rfl
  rotate_left
  · simp only [Act.put, List.setIfInBounds_toArray, List.set_cons_zero, List.set_cons_succ, i64_w, i32_w]
    rfl
  refine take_ (i := 2) (N := some 69) (v := ?_) (a' := ?_) #[true, false, true, false, false, false] rfl rfl (by kernel_rfl) (fun _ _ _ h => h) (Or.inl ⟨by rfl, ?_⟩) hQ ?_ ?_
  rotate_left
  · rintro w' ⟨s0, s1, s2, s3, s4, s5⟩
    go_simp
    with_reducible rfl
  rotate_left
  · simp only [Act.put, List.setIfInBounds_toArray, List.set_cons_zero, List.set_cons_succ, i64_w, i32_w]
    rfl
  refine one_ (i := 1) (N := some 68) #[true, true, true, false, false, false] rfl rfl (by kernel_rfl) (by decide) (fun K hK => ?_)
  refine goes_ Try.func47 (by kernel_rfl) rfl #[.agg #[.bool (ng n), .slice A4 (ln n) c5, .bool (ng d), .slice A6 (ln d) c7]] (by rfl) rfl rfl (by simp only [List.map_toArray, List.map_cons, List.map_nil]; try rfl) ?_
  with_reducible refine (DenQ (H.row _ (mt (mt (mt m10)))) (H.row _ (mt (mt m10))) (limR bn.out (by decide)) (limR bd.out (by decide)) e1 he1.out).mono ?_
  rintro e w220 ⟨A221, c222, rfl, hr, hb⟩
  replace H := H.got hr hb
  clear hr hb
  refine ⟨_, rfl, ?_⟩
  refine hK.out _ _ ⟨H.cell m3 0, H.cell m3 1, H.cell m3 2, H.cell m3 3, H.cell m2 0, H.cell m2 1⟩ (fun hQ => ?_)
  clear hK K
  refine norm_ (a' := ?_) ?_ ?_
  rotate_left
  · show Act.put _ (some 68) _ = _
    simp only [Act.put, List.setIfInBounds_toArray, List.set_cons_zero, List.set_cons_succ, i64_w, i32_w]
    rfl
  refine one_ (i := 3) (N := some 70) #[true, true, true, true, false, false] rfl rfl (by kernel_rfl) (by decide) (fun K hK => ?_)
  refine goes_ Try.func34 (by kernel_rfl) rfl #[.agg #[.bool (ng e1), .slice A221 (ln e1) c222], .agg #[.bool (ng i), .slice A15 (ln i) c16]] (by rfl) rfl rfl (by simp only [List.map_toArray, List.map_cons, List.map_nil]; try rfl) ?_
  with_reducible refine (CmpQ (H.row _ m0) (H.row _ (mt (mt m10))) (lim be1.out (by decide)) (lim bi.out (by decide)) k4 hk4.out).mono ?_
  rintro e w223 ⟨rfl, hb⟩
  replace H := H.call hb
  clear hb
  refine ⟨_, rfl, ?_⟩
  refine hK.out _ _ ⟨H.cell m3 0, H.cell m3 1, H.cell m3 2, H.cell m3 3, H.cell m2 0, H.cell m2 1⟩ (fun hQ => ?_)
  clear hK K
  refine norm_ (a' := ?_) ?_ ?_
  rotate_left
  · show Act.put _ (some 70) _ = _
    simp only [Act.put, List.setIfInBounds_toArray, List.set_cons_zero, List.set_cons_succ, i64_w, i32_w]
    rfl
  refine pure_ (i := 4) (N := some 71) (v := ?_) (a' := ?_) #[true, true, true, true, true, false] rfl rfl (by kernel_rfl) (fun _ _ _ h => h) (Or.inl ⟨by rfl, ?_⟩) ?_ ?_
  rotate_left
  · intro w'
    go_simp
    with_reducible rfl
  rotate_left
  · simp only [Act.put, List.setIfInBounds_toArray, List.set_cons_zero, List.set_cons_succ, i64_w, i32_w]
    rfl
  refine pure_ (i := 5) (N := some 10) (v := ?_) (a' := ?_) #[true, true, true, true, true, true] rfl rfl (by kernel_rfl) (fun _ _ _ h => h) (Or.inl ⟨by rfl, ?_⟩) ?_ ?_
  rotate_left
  · intro w'
    go_simp
    with_reducible rfl
  rotate_left
  · simp only [Act.put, List.setIfInBounds_toArray, List.set_cons_zero, List.set_cons_succ, i64_w, i32_w]
    rfl
  refine done_ (by kernel_rfl) ?_
  try clear hQ
  obtain ⟨k8_0, z8_0, k8_1, z8_1, k8_2, z8_2, k8_3, z8_3⟩ := H.b4 (g := g8) m0
  obtain ⟨k6_0, z6_0, k6_1, z6_1, k6_2, z6_2, k6_3, z6_3⟩ := H.b4 (g := g6) m1
  obtain ⟨k5_0, z5_0, k5_1, z5_1⟩ := H.b2 (g := g5) m2
  obtain ⟨k3_0, z3_0, k3_1, z3_1, k3_2, z3_2, k3_3, z3_3⟩ := H.b4 (g := g3) m3
  have st229 := trivial
  have st235 := trivial
  have st238 := trivial
  have st244 := trivial
  have st250 := trivial
  have st253 := trivial
  go_wp2_with (first
    | (clear st229; go_at_call 53; (with_reducible refine (SubR (H.row _ m7) (H.row _ m6) (H.row _ m10) (H.row _ m9) (limR bc1.out (by decide)) (limR bj2.out (by decide)) (limR bf1.out (by decide)) (limR bj1.out (by decide)) u v hu.out).mono ?_); rintro e w224 ⟨A225, c226, A227, c228, rfl, hr, hr2, hb⟩; replace H := (H.got hr hb).more ((H.got hr2 hb).row _ m0); clear hr hr2 hb; clear k8_0 z8_0 k8_1 z8_1 k8_2 z8_2 k8_3 z8_3 k6_0 z6_0 k6_1 z6_1 k6_2 z6_2 k6_3 z6_3 k5_0 z5_0 k5_1 z5_1 k3_0 z3_0 k3_1 z3_1 k3_2 z3_2 k3_3 z3_3; obtain ⟨k8_0, z8_0, k8_1, z8_1, k8_2, z8_2, k8_3, z8_3⟩ := H.b4 (g := g8) m0; obtain ⟨k6_0, z6_0, k6_1, z6_1, k6_2, z6_2, k6_3, z6_3⟩ := H.b4 (g := g6) m1; obtain ⟨k5_0, z5_0, k5_1, z5_1⟩ := H.b2 (g := g5) m2; obtain ⟨k3_0, z3_0, k3_1, z3_1, k3_2, z3_2, k3_3, z3_3⟩ := H.b4 (g := g3) m3)
    | (clear st235; go_at_call 44; (with_reducible refine (OfR _ 0 z1 z2 hz.out).mono ?_); rintro e w230 ⟨A231, c232, A233, c234, rfl, hr, hr2, hb⟩; replace H := (H.got (fresh_row hr) hb).more ((H.got (fresh_row hr2) hb).row _ m0); clear hr hr2 hb; clear k8_0 z8_0 k8_1 z8_1 k8_2 z8_2 k8_3 z8_3 k6_0 z6_0 k6_1 z6_1 k6_2 z6_2 k6_3 z6_3 k5_0 z5_0 k5_1 z5_1 k3_0 z3_0 k3_1 z3_1 k3_2 z3_2 k3_3 z3_3; obtain ⟨k8_0, z8_0, k8_1, z8_1, k8_2, z8_2, k8_3, z8_3⟩ := H.b4 (g := g8) m0; obtain ⟨k6_0, z6_0, k6_1, z6_1, k6_2, z6_2, k6_3, z6_3⟩ := H.b4 (g := g6) m1; obtain ⟨k5_0, z5_0, k5_1, z5_1⟩ := H.b2 (g := g5) m2; obtain ⟨k3_0, z3_0, k3_1, z3_1, k3_2, z3_2, k3_3, z3_3⟩ := H.b4 (g := g3) m3)
    | (clear st238; go_at_call 40; (with_reducible refine (Same_f (H.row _ m3) (H.row _ m2) (H.row _ m1) (H.row _ m0) (limR bu.out (by decide)) (limR bv.out (by decide)) (limR bz1.out (by decide)) (limR bz2.out (by decide)) k5 hs1 hs2).mono ?_); rintro e w237 ⟨rfl, hb⟩; replace H := H.call hb; clear hb; clear k8_0 z8_0 k8_1 z8_1 k8_2 z8_2 k8_3 z8_3 k6_0 z6_0 k6_1 z6_1 k6_2 z6_2 k6_3 z6_3 k5_0 z5_0 k5_1 z5_1 k3_0 z3_0 k3_1 z3_1 k3_2 z3_2 k3_3 z3_3; obtain ⟨k8_0, z8_0, k8_1, z8_1, k8_2, z8_2, k8_3, z8_3⟩ := H.b4 (g := g8) m0; obtain ⟨k6_0, z6_0, k6_1, z6_1, k6_2, z6_2, k6_3, z6_3⟩ := H.b4 (g := g6) m1; obtain ⟨k5_0, z5_0, k5_1, z5_1⟩ := H.b2 (g := g5) m2; obtain ⟨k3_0, z3_0, k3_1, z3_1, k3_2, z3_2, k3_3, z3_3⟩ := H.b4 (g := g3) m3)
    | (clear st244; go_at_call 53; (with_reducible refine (SubR (H.row _ (mt m10)) (H.row _ m10) (H.row _ (mt (mt (mt (mt m10))))) (H.row _ (mt (mt (mt m10)))) (limR bc1.out (by decide)) (limR bj2.out (by decide)) (limR bf1.out (by decide)) (limR bj1.out (by decide)) u v hu.out).mono ?_); rintro e w239 ⟨A240, c241, A242, c243, rfl, hr, hr2, hb⟩; replace H := (H.got hr hb).more ((H.got hr2 hb).row _ m0); clear hr hr2 hb; clear k8_0 z8_0 k8_1 z8_1 k8_2 z8_2 k8_3 z8_3 k6_0 z6_0 k6_1 z6_1 k6_2 z6_2 k6_3 z6_3 k5_0 z5_0 k5_1 z5_1 k3_0 z3_0 k3_1 z3_1 k3_2 z3_2 k3_3 z3_3; obtain ⟨k8_0, z8_0, k8_1, z8_1, k8_2, z8_2, k8_3, z8_3⟩ := H.b4 (g := g8) m0; obtain ⟨k6_0, z6_0, k6_1, z6_1, k6_2, z6_2, k6_3, z6_3⟩ := H.b4 (g := g6) m1; obtain ⟨k5_0, z5_0, k5_1, z5_1⟩ := H.b2 (g := g5) m2; obtain ⟨k3_0, z3_0, k3_1, z3_1, k3_2, z3_2, k3_3, z3_3⟩ := H.b4 (g := g3) m3)
    | (clear st250; go_at_call 44; (with_reducible refine (OfR _ 1 o1 o2 ho.out).mono ?_); rintro e w245 ⟨A246, c247, A248, c249, rfl, hr, hr2, hb⟩; replace H := (H.got (fresh_row hr) hb).more ((H.got (fresh_row hr2) hb).row _ m0); clear hr hr2 hb; clear k8_0 z8_0 k8_1 z8_1 k8_2 z8_2 k8_3 z8_3 k6_0 z6_0 k6_1 z6_1 k6_2 z6_2 k6_3 z6_3 k5_0 z5_0 k5_1 z5_1 k3_0 z3_0 k3_1 z3_1 k3_2 z3_2 k3_3 z3_3; obtain ⟨k8_0, z8_0, k8_1, z8_1, k8_2, z8_2, k8_3, z8_3⟩ := H.b4 (g := g8) m0; obtain ⟨k6_0, z6_0, k6_1, z6_1, k6_2, z6_2, k6_3, z6_3⟩ := H.b4 (g := g6) m1; obtain ⟨k5_0, z5_0, k5_1, z5_1⟩ := H.b2 (g := g5) m2; obtain ⟨k3_0, z3_0, k3_1, z3_1, k3_2, z3_2, k3_3, z3_3⟩ := H.b4 (g := g3) m3)
    | (clear st253; go_at_call 40; (with_reducible refine (Same_t (H.row _ m3) (H.row _ m2) (H.row _ m1) (H.row _ m0) (limR bu.out (by decide)) (limR bv.out (by decide)) (limR bo1.out (by decide)) (limR bo2.out (by decide)) hs3 hs4).mono ?_); rintro e w252 ⟨rfl, hb⟩; replace H := H.call hb; clear hb; clear k8_0 z8_0 k8_1 z8_1 k8_2 z8_2 k8_3 z8_3 k6_0 z6_0 k6_1 z6_1 k6_2 z6_2 k6_3 z6_3 k5_0 z5_0 k5_1 z5_1 k3_0 z3_0 k3_1 z3_1 k3_2 z3_2 k3_3 z3_3; obtain ⟨k8_0, z8_0, k8_1, z8_1, k8_2, z8_2, k8_3, z8_3⟩ := H.b4 (g := g8) m0; obtain ⟨k6_0, z6_0, k6_1, z6_1, k6_2, z6_2, k6_3, z6_3⟩ := H.b4 (g := g6) m1; obtain ⟨k5_0, z5_0, k5_1, z5_1⟩ := H.b2 (g := g5) m2; obtain ⟨k3_0, z3_0, k3_1, z3_1, k3_2, z3_2, k3_3, z3_3⟩ := H.b4 (g := g3) m3))
  go_ret
  exact ⟨rfl, H.below⟩

theorem ln_one1 : ln 1 ≤ 1 := ln_bound 1 1 (by decide)
theorem rounds_num {n d f c : Int} (hd : 0 < d) (hg : Int.gcd n d = 1) (hf : flr n d = f) (hc : -(flr (-n) d) = c) : f * d ≤ n ∧ n ≤ c * d ∧ (d = 1 → c = f) ∧ (d ≠ 1 → c = f + 1) := by
  obtain ⟨a1, a2⟩ := flr_bounds hd hf
  obtain ⟨b1, b2⟩ := flr_bounds (n := -n) hd rfl
  have hgv : flr (-n) d = -c := by omega
  rw [hgv] at b1 b2
  rw [Int.neg_mul] at b1
  have b3 : (-c + 1) * d = -((c - 1) * d) := by rw [← Int.neg_mul]; congr 1; omega
  rw [b3] at b2
  have c1 : c - 1 < f + 1 := Int.lt_of_mul_lt_mul_right (a := d) (by omega) (by omega)
  have c2 : f ≤ c := Int.le_of_mul_le_mul_right (a := d) (by omega) hd
  refine ⟨a1, by omega, fun h1 => ?_, fun h1 => ?_⟩
  · subst h1; omega
  · by_cases h2 : f = c
    · exfalso
      have h3 : n = f * d := by rw [← h2] at b1; omega
      have h4 : d ∣ n := ⟨f, by rw [h3, Int.mul_comm]⟩
      have h5 : d.natAbs ∣ Int.gcd n d := Nat.dvd_gcd (Int.natAbs_dvd_natAbs.mpr h4) (Nat.dvd_refl _)
      rw [hg] at h5
      have := Nat.eq_one_of_dvd_one h5
      omega
    · omega
theorem cmp3_le {x y : Int} (h : x ≤ y) : decide (0 < cmp3 x y) = false := decide_eq_false (by unfold cmp3; repeat' split <;> omega)
theorem cmp3_ge {x y : Int} (h : y ≤ x) : decide (cmp3 x y < 0) = false := decide_eq_false (by unfold cmp3; repeat' split <;> omega)
theorem qt_dd {n d e : Int} (h : dd d = dd e) : qt n d = qt n e := by unfold qt; rw [h]
theorem rounds_walk (a : ByteArray) (w : World) : Calls Try.prog 18 #[.string a] w (fun e W' => e = .returned (.bool true) ∧ Below w.heap.size w W') := by
  obtain ⟨⟨n, d, er⟩, hp⟩ : ∃ v, rp a = v := ⟨_, rfl⟩
  by_cases hl : 200 < (a.size : Int)
  · exact rounds_l a w n d er ⟨hp⟩ ⟨decide_eq_true hl⟩
  · by_cases he : er = 0
    · subst he
      obtain ⟨d0, hg, bn, bd⟩ := rp_low hp
      have hdd : dd d = d := by unfold dd; rw [if_neg (by omega)]
      have d1 : dd 1 = 1 := rfl
      obtain ⟨f, hf⟩ : ∃ f, flr n d = f := ⟨_, rfl⟩
      obtain ⟨c, hc⟩ : ∃ c, -(flr (-n) d) = c := ⟨_, rfl⟩
      obtain ⟨r1, r2, r3, r4⟩ := rounds_num d0 hg hf hc
      have bf := bFlr bn hf
      have bnn : ln (-n) ≤ 512 := by rw [ln_neg]; exact bn
      have bf2 : ln (flr (-n) d) ≤ 513 := bFlr bnn rfl
      have bc : ln c ≤ 513 := by rw [← hc, ln_neg]; exact bf2
      have l0 : ln 0 ≤ 1 := Nat.zero_le _
      by_cases h1 : d = 1
      · have e := r3 h1
        exact rounds_w a w n d ⟨hp⟩ ⟨decide_eq_false hl⟩ ⟨bn⟩ ⟨bd⟩ 1 f c f 1 c 1 (-n) (flr (-n) d) c _ _ d 0 1 0 0 ⟨ln_one1⟩ ⟨bf⟩ ⟨bc⟩ ⟨bf⟩ ⟨ln_one1⟩ ⟨bc⟩ ⟨ln_one1⟩ ⟨bnn⟩ ⟨bf2⟩ ⟨bc⟩ ⟨bd⟩ ⟨Nat.zero_le _⟩ ⟨Nat.le_trans ln_one1 (by decide)⟩ ⟨l0⟩ ⟨l0⟩
          ⟨rfl⟩ ⟨hf⟩ ⟨(qn_one f).1, (qn_one f).2, rfl⟩ ⟨hc⟩ ⟨(qn_one c).1, (qn_one c).2, rfl⟩ ⟨rfl⟩ (cmp3_le (by rw [hdd, d1]; omega)) ⟨rfl⟩ (cmp3_ge (by rw [hdd, d1]; omega)) ⟨rfl⟩ d ⟨rfl⟩ ⟨bd⟩ ⟨rfl⟩ ⟨hc⟩ ⟨cmp3_eq rfl⟩ ⟨hdd⟩
          ⟨by rw [d1, show c * 1 + -f * 1 = 0 by omega]; exact qn_one 0⟩ ⟨rfl, rfl, by decide, by decide⟩ ⟨cmp3_eq h1⟩ ⟨rfl⟩ ⟨rfl⟩
      · have e := r4 h1
        exact rounds_n a w n d ⟨hp⟩ ⟨decide_eq_false hl⟩ ⟨bn⟩ ⟨bd⟩ 1 f c f 1 c 1 (-n) (flr (-n) d) c _ _ d 1 1 0 0 ⟨ln_one1⟩ ⟨bf⟩ ⟨bc⟩ ⟨bf⟩ ⟨ln_one1⟩ ⟨bc⟩ ⟨ln_one1⟩ ⟨bnn⟩ ⟨bf2⟩ ⟨bc⟩ ⟨bd⟩ ⟨Nat.le_trans ln_one1 (by decide)⟩ ⟨Nat.le_trans ln_one1 (by decide)⟩ ⟨l0⟩ ⟨l0⟩
          ⟨rfl⟩ ⟨hf⟩ ⟨(qn_one f).1, (qn_one f).2, rfl⟩ ⟨hc⟩ ⟨(qn_one c).1, (qn_one c).2, rfl⟩ ⟨rfl⟩ (cmp3_le (by rw [hdd, d1]; omega)) ⟨rfl⟩ (cmp3_ge (by rw [hdd, d1]; omega)) ⟨rfl⟩ d ⟨rfl⟩ ⟨bd⟩ ⟨rfl⟩ ⟨hc⟩ ⟨cmp3_eq rfl⟩ ⟨hdd⟩
          ⟨by rw [d1, show c * 1 + -f * 1 = 1 by omega]; exact qn_one 1⟩ ⟨rfl, rfl, by decide, by decide⟩ _ 1 1 0 ⟨ln_one1⟩ ⟨l0⟩ ⟨rfl⟩ (beq_eq_false_iff_ne.mpr (by unfold cmp3; repeat' split <;> omega)) ⟨rfl⟩ ⟨by decide⟩ ⟨rfl, rfl, by decide, by decide⟩ ⟨rfl⟩ ⟨qt_dd rfl⟩
    · exact rounds_e a w n d er ⟨hp⟩ ⟨decide_eq_false hl⟩ (by simpa using he)

end Go.Proofs.Ytdkapdgbfejgdaa
