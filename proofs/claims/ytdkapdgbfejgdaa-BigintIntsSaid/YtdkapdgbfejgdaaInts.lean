/- The walk of the law BigintInts: over every integer and every text it returns true. -/
import Derived.Test.YtdkapdgbfejgdaaSm
namespace Go.Proofs.Ytdkapdgbfejgdaa
open Go.RowKit Go.Proofs.YtdkapdgbfejgdaaW.PrintWords Go.Proofs.YtdkapdgbfejgdaaW.PrintLast Go.Proofs.YtdkapdgbfejgdaaW.PrintMore
set_option linter.unusedSimpArgs false
set_option linter.unusedVariables false

theorem wf_i64 {a : Int} (h : (Lit.int .i64 a).wf = true) : -9223372036854775808 ≤ a ∧ a ≤ 9223372036854775807 := by
  simp only [Lit.wf, Bool.and_eq_true, decide_eq_true_eq] at h
  exact h
theorem sg_pos {n : Int} (h : 0 < n) : sg n = 1 := by unfold sg; rw [if_neg (by omega), if_neg (by omega)]
theorem sg_neg {n : Int} (h : n < 0) : sg n = -1 := by unfold sg; rw [if_pos h]
theorem fits_iff (y : Int) : fitsI y = (decide (cmp3 y (-9223372036854775808) ≥ 0) && decide (cmp3 y 9223372036854775807 ≤ 0)) := by
  unfold fitsI cmp3
  by_cases h1 : y < -9223372036854775808
  · rw [if_pos h1, decide_eq_false (by omega)]; rfl
  · by_cases h2 : 9223372036854775807 < y
    · rw [decide_eq_false (by omega), if_neg h1, if_pos (by omega), if_neg (by omega), if_pos h2]; rfl
    · have a : (if y < -9223372036854775808 then -1 else if -9223372036854775808 < y then 1 else 0 : Int) ≥ 0 := by
        repeat' split
        all_goals omega
      have b : (if y < 9223372036854775807 then -1 else if 9223372036854775807 < y then 1 else 0 : Int) ≤ 0 := by
        repeat' split
        all_goals omega
      rw [decide_eq_true (by omega), decide_eq_true a, decide_eq_true b]; rfl

set_option maxHeartbeats 8000000 in
set_option maxRecDepth 100000 in
theorem ints_long_p (n : Int) (s : ByteArray) (w : World) (n0 : -9223372036854775808 ≤ n) (n1 : n ≤ 9223372036854775807) (hs : 0 < n) (hsz : 80 < s.size) : Calls Try.prog 14 #[.int .i64 n, .string s] w (fun e W' => e = .returned (.bool true) ∧ Below w.heap.size w W') := by
  have d1 : decide (80 < (s.size : Int)) = true := decide_eq_true (by omega)
  have d2 : decide (80 < s.size) = true := decide_eq_true (by omega)
  have hu25 := Try.underlying25
  have H := Sit.start w (fun _ => False)
  have bn := Aside0.mk (bOf (r := n) (by omega))
  have i1 := Aside0.mk (show intOfI n = n from intOf_fit n0 n1)
  have f1 := Aside0.mk (show fitsI n = true from fits_fit n0 n1)
  have t1 : (n != n) = false := by simp
  have t2 : decide (0 < n) = true := decide_eq_true (by omega)
  have t3 : decide (n < 0) = false := decide_eq_false (by omega)
  have hsg := Aside0.mk (show sg n = 1 from sg_pos hs)
  obtain ⟨lo, elo⟩ : ∃ v : Int, (-9223372036854775808 : Int) = v := ⟨_, rfl⟩
  obtain ⟨hi, ehi⟩ : ∃ v : Int, (9223372036854775807 : Int) = v := ⟨_, rfl⟩
  have hlo := Aside0.mk elo
  have hhi := Aside0.mk ehi
  have blo := Aside0.mk (bOf (r := lo) (by omega))
  have bhi := Aside0.mk (bOf (r := hi) (by omega))
  clear elo ehi hs
  go_enter Try.func14, Try.ntmps14
  have st2 := trivial
  have st6 := trivial
  have st8 := trivial
  go_upto_region 4 with (first
    | (clear st2; go_at_call 22; (with_reducible refine (awake_ok _).mono ?_); rintro e wA ⟨rfl, hb⟩; replace H := H.call hb; clear hb)
    | (clear st6; go_at_call 27; (with_reducible refine (OfQ _ n n rfl (by omega) (by omega)).mono ?_); rintro e w3 ⟨A4, c5, rfl, hr, hb⟩; replace H := H.got (fresh_row hr) hb; clear hr hb)
    | (clear st8; (with_reducible refine gate_dst (N := 5) rfl ?_); refine box_event ?hg (N := 5) ?hd (cs := #[.bool false, .slice none 0 0]) (t := 25) ?hr ?_; (case hd => rfl); (case hg => rfl); (case hr => first | (go_simp; done) | (go_simp; rfl)); intro gx hg w7 hbox hb; replace H := H.newbox hg hbox hb; clear hg hbox hb; have kgx_0 : w7.cell? ⟨gx, 0, none⟩ = some (.bool false) := H.cell m0 0; have zgx_0 := H.frozen (g := gx) m0 0; have kgx_1 : w7.cell? ⟨gx, 1, none⟩ = some (.slice none 0 0) := H.cell m0 1; have zgx_1 := H.frozen (g := gx) m0 1))
  (try simp only [Act.put, List.setIfInBounds_toArray, List.set_cons_zero, List.set_cons_succ])
  replace H := ((H.setn [] 0 (.bool (ng n)) rfl).setn [] 1 (.slice A4 (ln n) c5) rfl)
  clear kgx_0 zgx_0 kgx_1 zgx_1
  generalize ((w7.setCell ⟨gx, 0, none⟩ (.bool (ng n))).setCell ⟨gx, 1, none⟩ (.slice A4 (ln n) c5)) = w9 at H ⊢
  have kgx_0 : w9.cell? ⟨gx, 0, none⟩ = some (.bool (ng n)) := H.cell m0 0
  have zgx_0 := H.frozen (g := gx) m0 0
  have kgx_1 : w9.cell? ⟨gx, 1, none⟩ = some (.slice A4 (ln n) c5) := H.cell m0 1
  have zgx_1 := H.frozen (g := gx) m0 1
  have st11 := trivial
  have st13 := trivial
  have st17 := trivial
  have st21 := trivial
  have st23 := trivial
  have st25 := trivial
  go_upto_region 13 with (first
    | (clear st11; go_at_call 29; (with_reducible refine (IntQ (H.row _ m0) n true i1.out f1.out).mono ?_); rintro e w10 ⟨rfl, hb⟩; replace H := H.call hb; clear hb; clear kgx_0 zgx_0 kgx_1 zgx_1; have kgx_0 : w10.cell? ⟨gx, 0, none⟩ = some (.bool (ng n)) := H.cell m0 0; have zgx_0 := H.frozen (g := gx) m0 0; have kgx_1 : w10.cell? ⟨gx, 1, none⟩ = some (.slice A4 (ln n) c5) := H.cell m0 1; have zgx_1 := H.frozen (g := gx) m0 1)
    | (clear st13; go_at_call 25; (with_reducible refine (SignQ _ _ _ (lim bn.out (by decide)) 1 hsg.out).mono ?_); rintro e w12 ⟨rfl, hb⟩; replace H := H.call hb; clear hb; clear kgx_0 zgx_0 kgx_1 zgx_1; have kgx_0 : w12.cell? ⟨gx, 0, none⟩ = some (.bool (ng n)) := H.cell m0 0; have zgx_0 := H.frozen (g := gx) m0 0; have kgx_1 : w12.cell? ⟨gx, 1, none⟩ = some (.slice A4 (ln n) c5) := H.cell m0 1; have zgx_1 := H.frozen (g := gx) m0 1)
    | (clear st17; go_at_call 27; (with_reducible refine (OfQ _ (-9223372036854775808) lo hlo.out (by omega) (by omega)).mono ?_); rintro e w14 ⟨A15, c16, rfl, hr, hb⟩; replace H := H.got (fresh_row hr) hb; clear hr hb; clear kgx_0 zgx_0 kgx_1 zgx_1; have kgx_0 : w14.cell? ⟨gx, 0, none⟩ = some (.bool (ng n)) := H.cell m0 0; have zgx_0 := H.frozen (g := gx) m0 0; have kgx_1 : w14.cell? ⟨gx, 1, none⟩ = some (.slice A4 (ln n) c5) := H.cell m0 1; have zgx_1 := H.frozen (g := gx) m0 1)
    | (clear st21; go_at_call 27; (with_reducible refine (OfQ _ 9223372036854775807 hi hhi.out (by omega) (by omega)).mono ?_); rintro e w18 ⟨A19, c20, rfl, hr, hb⟩; replace H := H.got (fresh_row hr) hb; clear hr hb; clear kgx_0 zgx_0 kgx_1 zgx_1; have kgx_0 : w18.cell? ⟨gx, 0, none⟩ = some (.bool (ng n)) := H.cell m0 0; have zgx_0 := H.frozen (g := gx) m0 0; have kgx_1 : w18.cell? ⟨gx, 1, none⟩ = some (.slice A4 (ln n) c5) := H.cell m0 1; have zgx_1 := H.frozen (g := gx) m0 1)
    | (clear st23; (with_reducible refine gate_dst (N := 9) rfl ?_); refine box_event ?hg (N := 9) ?hd (cs := #[.bool false, .slice none 0 0]) (t := 25) ?hr ?_; (case hd => rfl); (case hg => rfl); (case hr => first | (go_simp; done) | (go_simp; rfl)); intro gl hg w22 hbox hb; replace H := H.newbox hg hbox hb; clear hg hbox hb; clear kgx_0 zgx_0 kgx_1 zgx_1; have kgl_0 : w22.cell? ⟨gl, 0, none⟩ = some (.bool false) := H.cell m0 0; have zgl_0 := H.frozen (g := gl) m0 0; have kgl_1 : w22.cell? ⟨gl, 1, none⟩ = some (.slice none 0 0) := H.cell m0 1; have zgl_1 := H.frozen (g := gl) m0 1; have kgx_0 : w22.cell? ⟨gx, 0, none⟩ = some (.bool (ng n)) := H.cell m1 0; have zgx_0 := H.frozen (g := gx) m1 0; have kgx_1 : w22.cell? ⟨gx, 1, none⟩ = some (.slice A4 (ln n) c5) := H.cell m1 1; have zgx_1 := H.frozen (g := gx) m1 1; have ne_gl_gx := H.ne (g := gl) (g' := gx) 0 1 rfl rfl (by decide); have ne_gx_gl := ne_gl_gx.symm)
    | (clear st25; (with_reducible refine gate_dst (N := 10) rfl ?_); refine box_event ?hg (N := 10) ?hd (cs := #[.bool false, .slice none 0 0]) (t := 25) ?hr ?_; (case hd => rfl); (case hg => rfl); (case hr => first | (go_simp; done) | (go_simp; rfl)); intro gh hg w24 hbox hb; replace H := H.newbox hg hbox hb; clear hg hbox hb; clear kgl_0 zgl_0 kgl_1 zgl_1 kgx_0 zgx_0 kgx_1 zgx_1; have kgh_0 : w24.cell? ⟨gh, 0, none⟩ = some (.bool false) := H.cell m0 0; have zgh_0 := H.frozen (g := gh) m0 0; have kgh_1 : w24.cell? ⟨gh, 1, none⟩ = some (.slice none 0 0) := H.cell m0 1; have zgh_1 := H.frozen (g := gh) m0 1; have kgl_0 : w24.cell? ⟨gl, 0, none⟩ = some (.bool false) := H.cell m1 0; have zgl_0 := H.frozen (g := gl) m1 0; have kgl_1 : w24.cell? ⟨gl, 1, none⟩ = some (.slice none 0 0) := H.cell m1 1; have zgl_1 := H.frozen (g := gl) m1 1; have kgx_0 : w24.cell? ⟨gx, 0, none⟩ = some (.bool (ng n)) := H.cell m2 0; have zgx_0 := H.frozen (g := gx) m2 0; have kgx_1 : w24.cell? ⟨gx, 1, none⟩ = some (.slice A4 (ln n) c5) := H.cell m2 1; have zgx_1 := H.frozen (g := gx) m2 1; have ne_gh_gl := H.ne (g := gh) (g' := gl) 0 1 rfl rfl (by decide); have ne_gl_gh := ne_gh_gl.symm; have ne_gh_gx := H.ne (g := gh) (g' := gx) 0 2 rfl rfl (by decide); have ne_gx_gh := ne_gh_gx.symm))
  (try simp only [Act.put, List.setIfInBounds_toArray, List.set_cons_zero, List.set_cons_succ])
  replace H := ((((H.setn [_] 0 (.bool (ng lo)) rfl).setn [_] 1 (.slice A15 (ln lo) c16) rfl).setn [] 0 (.bool (ng hi)) rfl).setn [] 1 (.slice A19 (ln hi) c20) rfl)
  clear kgh_0 zgh_0 kgh_1 zgh_1 kgl_0 zgl_0 kgl_1 zgl_1 kgx_0 zgx_0 kgx_1 zgx_1
  generalize ((((w24.setCell ⟨gl, 0, none⟩ (.bool (ng lo))).setCell ⟨gl, 1, none⟩ (.slice A15 (ln lo) c16)).setCell ⟨gh, 0, none⟩ (.bool (ng hi))).setCell ⟨gh, 1, none⟩ (.slice A19 (ln hi) c20)) = w26 at H ⊢
  have kgh_0 : w26.cell? ⟨gh, 0, none⟩ = some (.bool (ng hi)) := H.cell m0 0
  have zgh_0 := H.frozen (g := gh) m0 0
  have kgh_1 : w26.cell? ⟨gh, 1, none⟩ = some (.slice A19 (ln hi) c20) := H.cell m0 1
  have zgh_1 := H.frozen (g := gh) m0 1
  have kgl_0 : w26.cell? ⟨gl, 0, none⟩ = some (.bool (ng lo)) := H.cell m1 0
  have zgl_0 := H.frozen (g := gl) m1 0
  have kgl_1 : w26.cell? ⟨gl, 1, none⟩ = some (.slice A15 (ln lo) c16) := H.cell m1 1
  have zgl_1 := H.frozen (g := gl) m1 1
  have kgx_0 : w26.cell? ⟨gx, 0, none⟩ = some (.bool (ng n)) := H.cell m2 0
  have zgx_0 := H.frozen (g := gx) m2 0
  have kgx_1 : w26.cell? ⟨gx, 1, none⟩ = some (.slice A4 (ln n) c5) := H.cell m2 1
  have zgx_1 := H.frozen (g := gx) m2 1
  go_wp2
  go_ret
  exact ⟨rfl, H.below⟩

set_option maxHeartbeats 8000000 in
set_option maxRecDepth 100000 in
theorem ints_err_p (n : Int) (s : ByteArray) (w : World) (n0 : -9223372036854775808 ≤ n) (n1 : n ≤ 9223372036854775807) (hs : 0 < n) (hsz : s.size ≤ 80) (y e : Int) (hy : Aside0 (pr s = (y, e))) (he : (e != 0) = true) (he2 : (e == 0) = false) : Calls Try.prog 14 #[.int .i64 n, .string s] w (fun e W' => e = .returned (.bool true) ∧ Below w.heap.size w W') := by
  have d1 : decide (80 < (s.size : Int)) = false := decide_eq_false (by omega)
  have d2 : decide (80 < s.size) = false := decide_eq_false (by omega)
  have bY := Aside0.mk (pr_small hy.out hsz)
  have hu25 := Try.underlying25
  have H := Sit.start w (fun _ => False)
  have bn := Aside0.mk (bOf (r := n) (by omega))
  have i1 := Aside0.mk (show intOfI n = n from intOf_fit n0 n1)
  have f1 := Aside0.mk (show fitsI n = true from fits_fit n0 n1)
  have t1 : (n != n) = false := by simp
  have t2 : decide (0 < n) = true := decide_eq_true (by omega)
  have t3 : decide (n < 0) = false := decide_eq_false (by omega)
  have hsg := Aside0.mk (show sg n = 1 from sg_pos hs)
  obtain ⟨lo, elo⟩ : ∃ v : Int, (-9223372036854775808 : Int) = v := ⟨_, rfl⟩
  obtain ⟨hi, ehi⟩ : ∃ v : Int, (9223372036854775807 : Int) = v := ⟨_, rfl⟩
  have hlo := Aside0.mk elo
  have hhi := Aside0.mk ehi
  have blo := Aside0.mk (bOf (r := lo) (by omega))
  have bhi := Aside0.mk (bOf (r := hi) (by omega))
  clear elo ehi hs
  go_enter Try.func14, Try.ntmps14
  have st2 := trivial
  have st6 := trivial
  have st8 := trivial
  go_upto_region 4 with (first
    | (clear st2; go_at_call 22; (with_reducible refine (awake_ok _).mono ?_); rintro e wA ⟨rfl, hb⟩; replace H := H.call hb; clear hb)
    | (clear st6; go_at_call 27; (with_reducible refine (OfQ _ n n rfl (by omega) (by omega)).mono ?_); rintro e w3 ⟨A4, c5, rfl, hr, hb⟩; replace H := H.got (fresh_row hr) hb; clear hr hb)
    | (clear st8; (with_reducible refine gate_dst (N := 5) rfl ?_); refine box_event ?hg (N := 5) ?hd (cs := #[.bool false, .slice none 0 0]) (t := 25) ?hr ?_; (case hd => rfl); (case hg => rfl); (case hr => first | (go_simp; done) | (go_simp; rfl)); intro gx hg w7 hbox hb; replace H := H.newbox hg hbox hb; clear hg hbox hb; have kgx_0 : w7.cell? ⟨gx, 0, none⟩ = some (.bool false) := H.cell m0 0; have zgx_0 := H.frozen (g := gx) m0 0; have kgx_1 : w7.cell? ⟨gx, 1, none⟩ = some (.slice none 0 0) := H.cell m0 1; have zgx_1 := H.frozen (g := gx) m0 1))
  (try simp only [Act.put, List.setIfInBounds_toArray, List.set_cons_zero, List.set_cons_succ])
  replace H := ((H.setn [] 0 (.bool (ng n)) rfl).setn [] 1 (.slice A4 (ln n) c5) rfl)
  clear kgx_0 zgx_0 kgx_1 zgx_1
  generalize ((w7.setCell ⟨gx, 0, none⟩ (.bool (ng n))).setCell ⟨gx, 1, none⟩ (.slice A4 (ln n) c5)) = w9 at H ⊢
  have kgx_0 : w9.cell? ⟨gx, 0, none⟩ = some (.bool (ng n)) := H.cell m0 0
  have zgx_0 := H.frozen (g := gx) m0 0
  have kgx_1 : w9.cell? ⟨gx, 1, none⟩ = some (.slice A4 (ln n) c5) := H.cell m0 1
  have zgx_1 := H.frozen (g := gx) m0 1
  have st11 := trivial
  have st13 := trivial
  have st17 := trivial
  have st21 := trivial
  have st23 := trivial
  have st25 := trivial
  go_upto_region 13 with (first
    | (clear st11; go_at_call 29; (with_reducible refine (IntQ (H.row _ m0) n true i1.out f1.out).mono ?_); rintro e w10 ⟨rfl, hb⟩; replace H := H.call hb; clear hb; clear kgx_0 zgx_0 kgx_1 zgx_1; have kgx_0 : w10.cell? ⟨gx, 0, none⟩ = some (.bool (ng n)) := H.cell m0 0; have zgx_0 := H.frozen (g := gx) m0 0; have kgx_1 : w10.cell? ⟨gx, 1, none⟩ = some (.slice A4 (ln n) c5) := H.cell m0 1; have zgx_1 := H.frozen (g := gx) m0 1)
    | (clear st13; go_at_call 25; (with_reducible refine (SignQ _ _ _ (lim bn.out (by decide)) 1 hsg.out).mono ?_); rintro e w12 ⟨rfl, hb⟩; replace H := H.call hb; clear hb; clear kgx_0 zgx_0 kgx_1 zgx_1; have kgx_0 : w12.cell? ⟨gx, 0, none⟩ = some (.bool (ng n)) := H.cell m0 0; have zgx_0 := H.frozen (g := gx) m0 0; have kgx_1 : w12.cell? ⟨gx, 1, none⟩ = some (.slice A4 (ln n) c5) := H.cell m0 1; have zgx_1 := H.frozen (g := gx) m0 1)
    | (clear st17; go_at_call 27; (with_reducible refine (OfQ _ (-9223372036854775808) lo hlo.out (by omega) (by omega)).mono ?_); rintro e w14 ⟨A15, c16, rfl, hr, hb⟩; replace H := H.got (fresh_row hr) hb; clear hr hb; clear kgx_0 zgx_0 kgx_1 zgx_1; have kgx_0 : w14.cell? ⟨gx, 0, none⟩ = some (.bool (ng n)) := H.cell m0 0; have zgx_0 := H.frozen (g := gx) m0 0; have kgx_1 : w14.cell? ⟨gx, 1, none⟩ = some (.slice A4 (ln n) c5) := H.cell m0 1; have zgx_1 := H.frozen (g := gx) m0 1)
    | (clear st21; go_at_call 27; (with_reducible refine (OfQ _ 9223372036854775807 hi hhi.out (by omega) (by omega)).mono ?_); rintro e w18 ⟨A19, c20, rfl, hr, hb⟩; replace H := H.got (fresh_row hr) hb; clear hr hb; clear kgx_0 zgx_0 kgx_1 zgx_1; have kgx_0 : w18.cell? ⟨gx, 0, none⟩ = some (.bool (ng n)) := H.cell m0 0; have zgx_0 := H.frozen (g := gx) m0 0; have kgx_1 : w18.cell? ⟨gx, 1, none⟩ = some (.slice A4 (ln n) c5) := H.cell m0 1; have zgx_1 := H.frozen (g := gx) m0 1)
    | (clear st23; (with_reducible refine gate_dst (N := 9) rfl ?_); refine box_event ?hg (N := 9) ?hd (cs := #[.bool false, .slice none 0 0]) (t := 25) ?hr ?_; (case hd => rfl); (case hg => rfl); (case hr => first | (go_simp; done) | (go_simp; rfl)); intro gl hg w22 hbox hb; replace H := H.newbox hg hbox hb; clear hg hbox hb; clear kgx_0 zgx_0 kgx_1 zgx_1; have kgl_0 : w22.cell? ⟨gl, 0, none⟩ = some (.bool false) := H.cell m0 0; have zgl_0 := H.frozen (g := gl) m0 0; have kgl_1 : w22.cell? ⟨gl, 1, none⟩ = some (.slice none 0 0) := H.cell m0 1; have zgl_1 := H.frozen (g := gl) m0 1; have kgx_0 : w22.cell? ⟨gx, 0, none⟩ = some (.bool (ng n)) := H.cell m1 0; have zgx_0 := H.frozen (g := gx) m1 0; have kgx_1 : w22.cell? ⟨gx, 1, none⟩ = some (.slice A4 (ln n) c5) := H.cell m1 1; have zgx_1 := H.frozen (g := gx) m1 1; have ne_gl_gx := H.ne (g := gl) (g' := gx) 0 1 rfl rfl (by decide); have ne_gx_gl := ne_gl_gx.symm)
    | (clear st25; (with_reducible refine gate_dst (N := 10) rfl ?_); refine box_event ?hg (N := 10) ?hd (cs := #[.bool false, .slice none 0 0]) (t := 25) ?hr ?_; (case hd => rfl); (case hg => rfl); (case hr => first | (go_simp; done) | (go_simp; rfl)); intro gh hg w24 hbox hb; replace H := H.newbox hg hbox hb; clear hg hbox hb; clear kgl_0 zgl_0 kgl_1 zgl_1 kgx_0 zgx_0 kgx_1 zgx_1; have kgh_0 : w24.cell? ⟨gh, 0, none⟩ = some (.bool false) := H.cell m0 0; have zgh_0 := H.frozen (g := gh) m0 0; have kgh_1 : w24.cell? ⟨gh, 1, none⟩ = some (.slice none 0 0) := H.cell m0 1; have zgh_1 := H.frozen (g := gh) m0 1; have kgl_0 : w24.cell? ⟨gl, 0, none⟩ = some (.bool false) := H.cell m1 0; have zgl_0 := H.frozen (g := gl) m1 0; have kgl_1 : w24.cell? ⟨gl, 1, none⟩ = some (.slice none 0 0) := H.cell m1 1; have zgl_1 := H.frozen (g := gl) m1 1; have kgx_0 : w24.cell? ⟨gx, 0, none⟩ = some (.bool (ng n)) := H.cell m2 0; have zgx_0 := H.frozen (g := gx) m2 0; have kgx_1 : w24.cell? ⟨gx, 1, none⟩ = some (.slice A4 (ln n) c5) := H.cell m2 1; have zgx_1 := H.frozen (g := gx) m2 1; have ne_gh_gl := H.ne (g := gh) (g' := gl) 0 1 rfl rfl (by decide); have ne_gl_gh := ne_gh_gl.symm; have ne_gh_gx := H.ne (g := gh) (g' := gx) 0 2 rfl rfl (by decide); have ne_gx_gh := ne_gh_gx.symm))
  (try simp only [Act.put, List.setIfInBounds_toArray, List.set_cons_zero, List.set_cons_succ])
  replace H := ((((H.setn [_] 0 (.bool (ng lo)) rfl).setn [_] 1 (.slice A15 (ln lo) c16) rfl).setn [] 0 (.bool (ng hi)) rfl).setn [] 1 (.slice A19 (ln hi) c20) rfl)
  clear kgh_0 zgh_0 kgh_1 zgh_1 kgl_0 zgl_0 kgl_1 zgl_1 kgx_0 zgx_0 kgx_1 zgx_1
  generalize ((((w24.setCell ⟨gl, 0, none⟩ (.bool (ng lo))).setCell ⟨gl, 1, none⟩ (.slice A15 (ln lo) c16)).setCell ⟨gh, 0, none⟩ (.bool (ng hi))).setCell ⟨gh, 1, none⟩ (.slice A19 (ln hi) c20)) = w26 at H ⊢
  have kgh_0 : w26.cell? ⟨gh, 0, none⟩ = some (.bool (ng hi)) := H.cell m0 0
  have zgh_0 := H.frozen (g := gh) m0 0
  have kgh_1 : w26.cell? ⟨gh, 1, none⟩ = some (.slice A19 (ln hi) c20) := H.cell m0 1
  have zgh_1 := H.frozen (g := gh) m0 1
  have kgl_0 : w26.cell? ⟨gl, 0, none⟩ = some (.bool (ng lo)) := H.cell m1 0
  have zgl_0 := H.frozen (g := gl) m1 0
  have kgl_1 : w26.cell? ⟨gl, 1, none⟩ = some (.slice A15 (ln lo) c16) := H.cell m1 1
  have zgl_1 := H.frozen (g := gl) m1 1
  have kgx_0 : w26.cell? ⟨gx, 0, none⟩ = some (.bool (ng n)) := H.cell m2 0
  have zgx_0 := H.frozen (g := gx) m2 0
  have kgx_1 : w26.cell? ⟨gx, 1, none⟩ = some (.slice A4 (ln n) c5) := H.cell m2 1
  have zgx_1 := H.frozen (g := gx) m2 1
  have st30 := trivial
  have st32 := trivial
  go_upto_region 16 with (first
    | (clear st30; go_at_call 23; (with_reducible refine (ParseQ s _ y e hy.out).mono ?_); rintro e w27 ⟨A28, c29, rfl, hr, hb⟩; replace H := H.got (fresh_row hr) hb; clear hr hb; clear kgh_0 zgh_0 kgh_1 zgh_1 kgl_0 zgl_0 kgl_1 zgl_1 kgx_0 zgx_0 kgx_1 zgx_1; have kgh_0 : w27.cell? ⟨gh, 0, none⟩ = some (.bool (ng hi)) := H.cell m0 0; have zgh_0 := H.frozen (g := gh) m0 0; have kgh_1 : w27.cell? ⟨gh, 1, none⟩ = some (.slice A19 (ln hi) c20) := H.cell m0 1; have zgh_1 := H.frozen (g := gh) m0 1; have kgl_0 : w27.cell? ⟨gl, 0, none⟩ = some (.bool (ng lo)) := H.cell m1 0; have zgl_0 := H.frozen (g := gl) m1 0; have kgl_1 : w27.cell? ⟨gl, 1, none⟩ = some (.slice A15 (ln lo) c16) := H.cell m1 1; have zgl_1 := H.frozen (g := gl) m1 1; have kgx_0 : w27.cell? ⟨gx, 0, none⟩ = some (.bool (ng n)) := H.cell m2 0; have zgx_0 := H.frozen (g := gx) m2 0; have kgx_1 : w27.cell? ⟨gx, 1, none⟩ = some (.slice A4 (ln n) c5) := H.cell m2 1; have zgx_1 := H.frozen (g := gx) m2 1)
    | (clear st32; (with_reducible refine gate_dst (N := 11) rfl ?_); refine box_event ?hg (N := 11) ?hd (cs := #[.bool false, .slice none 0 0]) (t := 25) ?hr ?_; (case hd => rfl); (case hg => rfl); (case hr => first | (go_simp; done) | (go_simp; rfl)); intro gy hg w31 hbox hb; replace H := H.newbox hg hbox hb; clear hg hbox hb; clear kgh_0 zgh_0 kgh_1 zgh_1 kgl_0 zgl_0 kgl_1 zgl_1 kgx_0 zgx_0 kgx_1 zgx_1; have kgy_0 : w31.cell? ⟨gy, 0, none⟩ = some (.bool false) := H.cell m0 0; have zgy_0 := H.frozen (g := gy) m0 0; have kgy_1 : w31.cell? ⟨gy, 1, none⟩ = some (.slice none 0 0) := H.cell m0 1; have zgy_1 := H.frozen (g := gy) m0 1; have kgh_0 : w31.cell? ⟨gh, 0, none⟩ = some (.bool (ng hi)) := H.cell m1 0; have zgh_0 := H.frozen (g := gh) m1 0; have kgh_1 : w31.cell? ⟨gh, 1, none⟩ = some (.slice A19 (ln hi) c20) := H.cell m1 1; have zgh_1 := H.frozen (g := gh) m1 1; have kgl_0 : w31.cell? ⟨gl, 0, none⟩ = some (.bool (ng lo)) := H.cell m2 0; have zgl_0 := H.frozen (g := gl) m2 0; have kgl_1 : w31.cell? ⟨gl, 1, none⟩ = some (.slice A15 (ln lo) c16) := H.cell m2 1; have zgl_1 := H.frozen (g := gl) m2 1; have kgx_0 : w31.cell? ⟨gx, 0, none⟩ = some (.bool (ng n)) := H.cell m3 0; have zgx_0 := H.frozen (g := gx) m3 0; have kgx_1 : w31.cell? ⟨gx, 1, none⟩ = some (.slice A4 (ln n) c5) := H.cell m3 1; have zgx_1 := H.frozen (g := gx) m3 1; have ne_gy_gh := H.ne (g := gy) (g' := gh) 0 1 rfl rfl (by decide); have ne_gh_gy := ne_gy_gh.symm; have ne_gy_gl := H.ne (g := gy) (g' := gl) 0 2 rfl rfl (by decide); have ne_gl_gy := ne_gy_gl.symm; have ne_gy_gx := H.ne (g := gy) (g' := gx) 0 3 rfl rfl (by decide); have ne_gx_gy := ne_gy_gx.symm))
  (try simp only [Act.put, List.setIfInBounds_toArray, List.set_cons_zero, List.set_cons_succ])
  replace H := ((H.setn [] 0 (.bool (ng y)) rfl).setn [] 1 (.slice A28 (ln y) c29) rfl)
  clear kgy_0 zgy_0 kgy_1 zgy_1 kgh_0 zgh_0 kgh_1 zgh_1 kgl_0 zgl_0 kgl_1 zgl_1 kgx_0 zgx_0 kgx_1 zgx_1
  generalize ((w31.setCell ⟨gy, 0, none⟩ (.bool (ng y))).setCell ⟨gy, 1, none⟩ (.slice A28 (ln y) c29)) = w33 at H ⊢
  have kgy_0 : w33.cell? ⟨gy, 0, none⟩ = some (.bool (ng y)) := H.cell m0 0
  have zgy_0 := H.frozen (g := gy) m0 0
  have kgy_1 : w33.cell? ⟨gy, 1, none⟩ = some (.slice A28 (ln y) c29) := H.cell m0 1
  have zgy_1 := H.frozen (g := gy) m0 1
  have kgh_0 : w33.cell? ⟨gh, 0, none⟩ = some (.bool (ng hi)) := H.cell m1 0
  have zgh_0 := H.frozen (g := gh) m1 0
  have kgh_1 : w33.cell? ⟨gh, 1, none⟩ = some (.slice A19 (ln hi) c20) := H.cell m1 1
  have zgh_1 := H.frozen (g := gh) m1 1
  have kgl_0 : w33.cell? ⟨gl, 0, none⟩ = some (.bool (ng lo)) := H.cell m2 0
  have zgl_0 := H.frozen (g := gl) m2 0
  have kgl_1 : w33.cell? ⟨gl, 1, none⟩ = some (.slice A15 (ln lo) c16) := H.cell m2 1
  have zgl_1 := H.frozen (g := gl) m2 1
  have kgx_0 : w33.cell? ⟨gx, 0, none⟩ = some (.bool (ng n)) := H.cell m3 0
  have zgx_0 := H.frozen (g := gx) m3 0
  have kgx_1 : w33.cell? ⟨gx, 1, none⟩ = some (.slice A4 (ln n) c5) := H.cell m3 1
  have zgx_1 := H.frozen (g := gx) m3 1
  go_wp2
  go_ret
  exact ⟨rfl, H.below⟩

def tb14.T21 : Bool × List (List Nat × List Nat) := (true, [([], []), ([0], [0]), ([1], [1]), ([2], [2]), ([3, 2], [2, 3]), ([2, 4], [2, 4]), ([5, 2], [5]), ([6], [6]), ([7, 6, 6], [6, 7]), ([8], [8]), ([9, 8, 8], [8, 9]), ([8], [8]), ([10, 11, 10, 8], [8, 10, 11]), ([12, 8], [8, 12]), ([8, 13, 6], [6, 8, 13]), ([6, 14], [6, 14]), ([15, 12, 0, 1, 2, 3, 4, 5, 6, 7, 8, 9, 10, 11, 12, 13, 14, 15], [15])])
def tb14.B21 : List Nat := [0, 1, 3, 7, 15, 31, 63, 127, 255, 511, 1023, 511, 4095, 8191, 16383, 32767, 65535]
theorem tb14.tab21 : rtab .any (opsOf Try.f14 21) = tb14.T21 := by kernel_rfl
theorem tb14.bits21 : waitsOk tb14.T21.2 tb14.B21 = true := by kernel_rfl

set_option maxHeartbeats 8000000 in
set_option maxRecDepth 100000 in
theorem ints_fit_p (n : Int) (s : ByteArray) (w : World) (n0 : -9223372036854775808 ≤ n) (n1 : n ≤ 9223372036854775807) (hs : 0 < n) (hsz : s.size ≤ 80) (y : Int) (hy : Aside0 (pr s = (y, 0))) (hF : fitsI y = true) : Calls Try.prog 14 #[.int .i64 n, .string s] w (fun e W' => e = .returned (.bool true) ∧ Below w.heap.size w W') := by
  have d1 : decide (80 < (s.size : Int)) = false := decide_eq_false (by omega)
  have d2 : decide (80 < s.size) = false := decide_eq_false (by omega)
  have bY := Aside0.mk (pr_small hy.out hsz)
  obtain ⟨k1, ek1⟩ : ∃ v, cmp3 y (-9223372036854775808) = v := ⟨_, rfl⟩
  obtain ⟨k2, ek2⟩ : ∃ v, cmp3 y 9223372036854775807 = v := ⟨_, rfl⟩
  have hf := fits_iff y
  rw [ek1, ek2] at hf
  have hk1 := Aside0.mk ek1
  have hk2 := Aside0.mk ek2
  clear ek1 ek2
  have hfit := Aside0.mk hF
  rw [hF] at hf
  simp only [ge_iff_le, Bool.and_eq_true, decide_eq_true_eq, Bool.true_eq] at hf
  have u1 : decide (0 ≤ k1) = true := decide_eq_true hf.1
  have u2 : decide (k2 ≤ 0) = true := decide_eq_true hf.2
  have ry := of_decide_eq_true hF
  have iy := Aside0.mk (show intOfI y = y from intOf_fit ry.1 ry.2)
  obtain ⟨y2, ey2⟩ : ∃ v : Int, y = v := ⟨_, rfl⟩
  have hy2 := Aside0.mk ey2
  have by2 := Aside0.mk (show ln y2 ≤ 10 by rw [← ey2]; exact bY.out)
  have hc := Aside0.mk (show cmp3 y2 y = 0 from cmp3_eq ey2.symm)
  clear ey2
  obtain ⟨ry1, ry2⟩ := ry
  clear hf hF
  have hu25 := Try.underlying25
  have H := Sit.start w (fun _ => False)
  have bn := Aside0.mk (bOf (r := n) (by omega))
  have i1 := Aside0.mk (show intOfI n = n from intOf_fit n0 n1)
  have f1 := Aside0.mk (show fitsI n = true from fits_fit n0 n1)
  have t1 : (n != n) = false := by simp
  have t2 : decide (0 < n) = true := decide_eq_true (by omega)
  have t3 : decide (n < 0) = false := decide_eq_false (by omega)
  have hsg := Aside0.mk (show sg n = 1 from sg_pos hs)
  obtain ⟨lo, elo⟩ : ∃ v : Int, (-9223372036854775808 : Int) = v := ⟨_, rfl⟩
  obtain ⟨hi, ehi⟩ : ∃ v : Int, (9223372036854775807 : Int) = v := ⟨_, rfl⟩
  have hlo := Aside0.mk elo
  have hhi := Aside0.mk ehi
  have blo := Aside0.mk (bOf (r := lo) (by omega))
  have bhi := Aside0.mk (bOf (r := hi) (by omega))
  clear elo ehi hs
  go_enter Try.func14, Try.ntmps14
  have st2 := trivial
  have st6 := trivial
  have st8 := trivial
  go_upto_region 4 with (first
    | (clear st2; go_at_call 22; (with_reducible refine (awake_ok _).mono ?_); rintro e wA ⟨rfl, hb⟩; replace H := H.call hb; clear hb)
    | (clear st6; go_at_call 27; (with_reducible refine (OfQ _ n n rfl (by omega) (by omega)).mono ?_); rintro e w3 ⟨A4, c5, rfl, hr, hb⟩; replace H := H.got (fresh_row hr) hb; clear hr hb)
    | (clear st8; (with_reducible refine gate_dst (N := 5) rfl ?_); refine box_event ?hg (N := 5) ?hd (cs := #[.bool false, .slice none 0 0]) (t := 25) ?hr ?_; (case hd => rfl); (case hg => rfl); (case hr => first | (go_simp; done) | (go_simp; rfl)); intro gx hg w7 hbox hb; replace H := H.newbox hg hbox hb; clear hg hbox hb; have kgx_0 : w7.cell? ⟨gx, 0, none⟩ = some (.bool false) := H.cell m0 0; have zgx_0 := H.frozen (g := gx) m0 0; have kgx_1 : w7.cell? ⟨gx, 1, none⟩ = some (.slice none 0 0) := H.cell m0 1; have zgx_1 := H.frozen (g := gx) m0 1))
  (try simp only [Act.put, List.setIfInBounds_toArray, List.set_cons_zero, List.set_cons_succ])
  replace H := ((H.setn [] 0 (.bool (ng n)) rfl).setn [] 1 (.slice A4 (ln n) c5) rfl)
  clear kgx_0 zgx_0 kgx_1 zgx_1
  generalize ((w7.setCell ⟨gx, 0, none⟩ (.bool (ng n))).setCell ⟨gx, 1, none⟩ (.slice A4 (ln n) c5)) = w9 at H ⊢
  have kgx_0 : w9.cell? ⟨gx, 0, none⟩ = some (.bool (ng n)) := H.cell m0 0
  have zgx_0 := H.frozen (g := gx) m0 0
  have kgx_1 : w9.cell? ⟨gx, 1, none⟩ = some (.slice A4 (ln n) c5) := H.cell m0 1
  have zgx_1 := H.frozen (g := gx) m0 1
  have st11 := trivial
  have st13 := trivial
  have st17 := trivial
  have st21 := trivial
  have st23 := trivial
  have st25 := trivial
  go_upto_region 13 with (first
    | (clear st11; go_at_call 29; (with_reducible refine (IntQ (H.row _ m0) n true i1.out f1.out).mono ?_); rintro e w10 ⟨rfl, hb⟩; replace H := H.call hb; clear hb; clear kgx_0 zgx_0 kgx_1 zgx_1; have kgx_0 : w10.cell? ⟨gx, 0, none⟩ = some (.bool (ng n)) := H.cell m0 0; have zgx_0 := H.frozen (g := gx) m0 0; have kgx_1 : w10.cell? ⟨gx, 1, none⟩ = some (.slice A4 (ln n) c5) := H.cell m0 1; have zgx_1 := H.frozen (g := gx) m0 1)
    | (clear st13; go_at_call 25; (with_reducible refine (SignQ _ _ _ (lim bn.out (by decide)) 1 hsg.out).mono ?_); rintro e w12 ⟨rfl, hb⟩; replace H := H.call hb; clear hb; clear kgx_0 zgx_0 kgx_1 zgx_1; have kgx_0 : w12.cell? ⟨gx, 0, none⟩ = some (.bool (ng n)) := H.cell m0 0; have zgx_0 := H.frozen (g := gx) m0 0; have kgx_1 : w12.cell? ⟨gx, 1, none⟩ = some (.slice A4 (ln n) c5) := H.cell m0 1; have zgx_1 := H.frozen (g := gx) m0 1)
    | (clear st17; go_at_call 27; (with_reducible refine (OfQ _ (-9223372036854775808) lo hlo.out (by omega) (by omega)).mono ?_); rintro e w14 ⟨A15, c16, rfl, hr, hb⟩; replace H := H.got (fresh_row hr) hb; clear hr hb; clear kgx_0 zgx_0 kgx_1 zgx_1; have kgx_0 : w14.cell? ⟨gx, 0, none⟩ = some (.bool (ng n)) := H.cell m0 0; have zgx_0 := H.frozen (g := gx) m0 0; have kgx_1 : w14.cell? ⟨gx, 1, none⟩ = some (.slice A4 (ln n) c5) := H.cell m0 1; have zgx_1 := H.frozen (g := gx) m0 1)
    | (clear st21; go_at_call 27; (with_reducible refine (OfQ _ 9223372036854775807 hi hhi.out (by omega) (by omega)).mono ?_); rintro e w18 ⟨A19, c20, rfl, hr, hb⟩; replace H := H.got (fresh_row hr) hb; clear hr hb; clear kgx_0 zgx_0 kgx_1 zgx_1; have kgx_0 : w18.cell? ⟨gx, 0, none⟩ = some (.bool (ng n)) := H.cell m0 0; have zgx_0 := H.frozen (g := gx) m0 0; have kgx_1 : w18.cell? ⟨gx, 1, none⟩ = some (.slice A4 (ln n) c5) := H.cell m0 1; have zgx_1 := H.frozen (g := gx) m0 1)
    | (clear st23; (with_reducible refine gate_dst (N := 9) rfl ?_); refine box_event ?hg (N := 9) ?hd (cs := #[.bool false, .slice none 0 0]) (t := 25) ?hr ?_; (case hd => rfl); (case hg => rfl); (case hr => first | (go_simp; done) | (go_simp; rfl)); intro gl hg w22 hbox hb; replace H := H.newbox hg hbox hb; clear hg hbox hb; clear kgx_0 zgx_0 kgx_1 zgx_1; have kgl_0 : w22.cell? ⟨gl, 0, none⟩ = some (.bool false) := H.cell m0 0; have zgl_0 := H.frozen (g := gl) m0 0; have kgl_1 : w22.cell? ⟨gl, 1, none⟩ = some (.slice none 0 0) := H.cell m0 1; have zgl_1 := H.frozen (g := gl) m0 1; have kgx_0 : w22.cell? ⟨gx, 0, none⟩ = some (.bool (ng n)) := H.cell m1 0; have zgx_0 := H.frozen (g := gx) m1 0; have kgx_1 : w22.cell? ⟨gx, 1, none⟩ = some (.slice A4 (ln n) c5) := H.cell m1 1; have zgx_1 := H.frozen (g := gx) m1 1; have ne_gl_gx := H.ne (g := gl) (g' := gx) 0 1 rfl rfl (by decide); have ne_gx_gl := ne_gl_gx.symm)
    | (clear st25; (with_reducible refine gate_dst (N := 10) rfl ?_); refine box_event ?hg (N := 10) ?hd (cs := #[.bool false, .slice none 0 0]) (t := 25) ?hr ?_; (case hd => rfl); (case hg => rfl); (case hr => first | (go_simp; done) | (go_simp; rfl)); intro gh hg w24 hbox hb; replace H := H.newbox hg hbox hb; clear hg hbox hb; clear kgl_0 zgl_0 kgl_1 zgl_1 kgx_0 zgx_0 kgx_1 zgx_1; have kgh_0 : w24.cell? ⟨gh, 0, none⟩ = some (.bool false) := H.cell m0 0; have zgh_0 := H.frozen (g := gh) m0 0; have kgh_1 : w24.cell? ⟨gh, 1, none⟩ = some (.slice none 0 0) := H.cell m0 1; have zgh_1 := H.frozen (g := gh) m0 1; have kgl_0 : w24.cell? ⟨gl, 0, none⟩ = some (.bool false) := H.cell m1 0; have zgl_0 := H.frozen (g := gl) m1 0; have kgl_1 : w24.cell? ⟨gl, 1, none⟩ = some (.slice none 0 0) := H.cell m1 1; have zgl_1 := H.frozen (g := gl) m1 1; have kgx_0 : w24.cell? ⟨gx, 0, none⟩ = some (.bool (ng n)) := H.cell m2 0; have zgx_0 := H.frozen (g := gx) m2 0; have kgx_1 : w24.cell? ⟨gx, 1, none⟩ = some (.slice A4 (ln n) c5) := H.cell m2 1; have zgx_1 := H.frozen (g := gx) m2 1; have ne_gh_gl := H.ne (g := gh) (g' := gl) 0 1 rfl rfl (by decide); have ne_gl_gh := ne_gh_gl.symm; have ne_gh_gx := H.ne (g := gh) (g' := gx) 0 2 rfl rfl (by decide); have ne_gx_gh := ne_gh_gx.symm))
  (try simp only [Act.put, List.setIfInBounds_toArray, List.set_cons_zero, List.set_cons_succ])
  replace H := ((((H.setn [_] 0 (.bool (ng lo)) rfl).setn [_] 1 (.slice A15 (ln lo) c16) rfl).setn [] 0 (.bool (ng hi)) rfl).setn [] 1 (.slice A19 (ln hi) c20) rfl)
  clear kgh_0 zgh_0 kgh_1 zgh_1 kgl_0 zgl_0 kgl_1 zgl_1 kgx_0 zgx_0 kgx_1 zgx_1
  generalize ((((w24.setCell ⟨gl, 0, none⟩ (.bool (ng lo))).setCell ⟨gl, 1, none⟩ (.slice A15 (ln lo) c16)).setCell ⟨gh, 0, none⟩ (.bool (ng hi))).setCell ⟨gh, 1, none⟩ (.slice A19 (ln hi) c20)) = w26 at H ⊢
  have kgh_0 : w26.cell? ⟨gh, 0, none⟩ = some (.bool (ng hi)) := H.cell m0 0
  have zgh_0 := H.frozen (g := gh) m0 0
  have kgh_1 : w26.cell? ⟨gh, 1, none⟩ = some (.slice A19 (ln hi) c20) := H.cell m0 1
  have zgh_1 := H.frozen (g := gh) m0 1
  have kgl_0 : w26.cell? ⟨gl, 0, none⟩ = some (.bool (ng lo)) := H.cell m1 0
  have zgl_0 := H.frozen (g := gl) m1 0
  have kgl_1 : w26.cell? ⟨gl, 1, none⟩ = some (.slice A15 (ln lo) c16) := H.cell m1 1
  have zgl_1 := H.frozen (g := gl) m1 1
  have kgx_0 : w26.cell? ⟨gx, 0, none⟩ = some (.bool (ng n)) := H.cell m2 0
  have zgx_0 := H.frozen (g := gx) m2 0
  have kgx_1 : w26.cell? ⟨gx, 1, none⟩ = some (.slice A4 (ln n) c5) := H.cell m2 1
  have zgx_1 := H.frozen (g := gx) m2 1
  have st30 := trivial
  have st32 := trivial
  go_upto_region 16 with (first
    | (clear st30; go_at_call 23; (with_reducible refine (ParseQ s _ y 0 hy.out).mono ?_); rintro e w27 ⟨A28, c29, rfl, hr, hb⟩; replace H := H.got (fresh_row hr) hb; clear hr hb; clear kgh_0 zgh_0 kgh_1 zgh_1 kgl_0 zgl_0 kgl_1 zgl_1 kgx_0 zgx_0 kgx_1 zgx_1; have kgh_0 : w27.cell? ⟨gh, 0, none⟩ = some (.bool (ng hi)) := H.cell m0 0; have zgh_0 := H.frozen (g := gh) m0 0; have kgh_1 : w27.cell? ⟨gh, 1, none⟩ = some (.slice A19 (ln hi) c20) := H.cell m0 1; have zgh_1 := H.frozen (g := gh) m0 1; have kgl_0 : w27.cell? ⟨gl, 0, none⟩ = some (.bool (ng lo)) := H.cell m1 0; have zgl_0 := H.frozen (g := gl) m1 0; have kgl_1 : w27.cell? ⟨gl, 1, none⟩ = some (.slice A15 (ln lo) c16) := H.cell m1 1; have zgl_1 := H.frozen (g := gl) m1 1; have kgx_0 : w27.cell? ⟨gx, 0, none⟩ = some (.bool (ng n)) := H.cell m2 0; have zgx_0 := H.frozen (g := gx) m2 0; have kgx_1 : w27.cell? ⟨gx, 1, none⟩ = some (.slice A4 (ln n) c5) := H.cell m2 1; have zgx_1 := H.frozen (g := gx) m2 1)
    | (clear st32; (with_reducible refine gate_dst (N := 11) rfl ?_); refine box_event ?hg (N := 11) ?hd (cs := #[.bool false, .slice none 0 0]) (t := 25) ?hr ?_; (case hd => rfl); (case hg => rfl); (case hr => first | (go_simp; done) | (go_simp; rfl)); intro gy hg w31 hbox hb; replace H := H.newbox hg hbox hb; clear hg hbox hb; clear kgh_0 zgh_0 kgh_1 zgh_1 kgl_0 zgl_0 kgl_1 zgl_1 kgx_0 zgx_0 kgx_1 zgx_1; have kgy_0 : w31.cell? ⟨gy, 0, none⟩ = some (.bool false) := H.cell m0 0; have zgy_0 := H.frozen (g := gy) m0 0; have kgy_1 : w31.cell? ⟨gy, 1, none⟩ = some (.slice none 0 0) := H.cell m0 1; have zgy_1 := H.frozen (g := gy) m0 1; have kgh_0 : w31.cell? ⟨gh, 0, none⟩ = some (.bool (ng hi)) := H.cell m1 0; have zgh_0 := H.frozen (g := gh) m1 0; have kgh_1 : w31.cell? ⟨gh, 1, none⟩ = some (.slice A19 (ln hi) c20) := H.cell m1 1; have zgh_1 := H.frozen (g := gh) m1 1; have kgl_0 : w31.cell? ⟨gl, 0, none⟩ = some (.bool (ng lo)) := H.cell m2 0; have zgl_0 := H.frozen (g := gl) m2 0; have kgl_1 : w31.cell? ⟨gl, 1, none⟩ = some (.slice A15 (ln lo) c16) := H.cell m2 1; have zgl_1 := H.frozen (g := gl) m2 1; have kgx_0 : w31.cell? ⟨gx, 0, none⟩ = some (.bool (ng n)) := H.cell m3 0; have zgx_0 := H.frozen (g := gx) m3 0; have kgx_1 : w31.cell? ⟨gx, 1, none⟩ = some (.slice A4 (ln n) c5) := H.cell m3 1; have zgx_1 := H.frozen (g := gx) m3 1; have ne_gy_gh := H.ne (g := gy) (g' := gh) 0 1 rfl rfl (by decide); have ne_gh_gy := ne_gy_gh.symm; have ne_gy_gl := H.ne (g := gy) (g' := gl) 0 2 rfl rfl (by decide); have ne_gl_gy := ne_gy_gl.symm; have ne_gy_gx := H.ne (g := gy) (g' := gx) 0 3 rfl rfl (by decide); have ne_gx_gy := ne_gy_gx.symm))
  (try simp only [Act.put, List.setIfInBounds_toArray, List.set_cons_zero, List.set_cons_succ])
  replace H := ((H.setn [] 0 (.bool (ng y)) rfl).setn [] 1 (.slice A28 (ln y) c29) rfl)
  clear kgy_0 zgy_0 kgy_1 zgy_1 kgh_0 zgh_0 kgh_1 zgh_1 kgl_0 zgl_0 kgl_1 zgl_1 kgx_0 zgx_0 kgx_1 zgx_1
  generalize ((w31.setCell ⟨gy, 0, none⟩ (.bool (ng y))).setCell ⟨gy, 1, none⟩ (.slice A28 (ln y) c29)) = w33 at H ⊢
  have kgy_0 : w33.cell? ⟨gy, 0, none⟩ = some (.bool (ng y)) := H.cell m0 0
  have zgy_0 := H.frozen (g := gy) m0 0
  have kgy_1 : w33.cell? ⟨gy, 1, none⟩ = some (.slice A28 (ln y) c29) := H.cell m0 1
  have zgy_1 := H.frozen (g := gy) m0 1
  have kgh_0 : w33.cell? ⟨gh, 0, none⟩ = some (.bool (ng hi)) := H.cell m1 0
  have zgh_0 := H.frozen (g := gh) m1 0
  have kgh_1 : w33.cell? ⟨gh, 1, none⟩ = some (.slice A19 (ln hi) c20) := H.cell m1 1
  have zgh_1 := H.frozen (g := gh) m1 1
  have kgl_0 : w33.cell? ⟨gl, 0, none⟩ = some (.bool (ng lo)) := H.cell m2 0
  have zgl_0 := H.frozen (g := gl) m2 0
  have kgl_1 : w33.cell? ⟨gl, 1, none⟩ = some (.slice A15 (ln lo) c16) := H.cell m2 1
  have zgl_1 := H.frozen (g := gl) m2 1
  have kgx_0 : w33.cell? ⟨gx, 0, none⟩ = some (.bool (ng n)) := H.cell m3 0
  have zgx_0 := H.frozen (g := gx) m3 0
  have kgx_1 : w33.cell? ⟨gx, 1, none⟩ = some (.slice A4 (ln n) c5) := H.cell m3 1
  have zgx_1 := H.frozen (g := gx) m3 1
  have st35 := trivial
  have c1 := Aside0.mk (show cmp3 y lo = k1 by rw [← hlo.out]; exact hk1.out)
  have c2 := Aside0.mk (show cmp3 y hi = k2 by rw [← hhi.out]; exact hk2.out)
  have st37 := trivial
  have st39 := trivial
  go_upto_region 21 with (first
    | (clear st35; go_at_call 29; (with_reducible refine (IntQ (H.row _ m0) y true iy.out hfit.out).mono ?_); rintro e w34 ⟨rfl, hb⟩; replace H := H.call hb; clear hb; clear kgy_0 zgy_0 kgy_1 zgy_1 kgh_0 zgh_0 kgh_1 zgh_1 kgl_0 zgl_0 kgl_1 zgl_1 kgx_0 zgx_0 kgx_1 zgx_1; have kgy_0 : w34.cell? ⟨gy, 0, none⟩ = some (.bool (ng y)) := H.cell m0 0; have zgy_0 := H.frozen (g := gy) m0 0; have kgy_1 : w34.cell? ⟨gy, 1, none⟩ = some (.slice A28 (ln y) c29) := H.cell m0 1; have zgy_1 := H.frozen (g := gy) m0 1; have kgh_0 : w34.cell? ⟨gh, 0, none⟩ = some (.bool (ng hi)) := H.cell m1 0; have zgh_0 := H.frozen (g := gh) m1 0; have kgh_1 : w34.cell? ⟨gh, 1, none⟩ = some (.slice A19 (ln hi) c20) := H.cell m1 1; have zgh_1 := H.frozen (g := gh) m1 1; have kgl_0 : w34.cell? ⟨gl, 0, none⟩ = some (.bool (ng lo)) := H.cell m2 0; have zgl_0 := H.frozen (g := gl) m2 0; have kgl_1 : w34.cell? ⟨gl, 1, none⟩ = some (.slice A15 (ln lo) c16) := H.cell m2 1; have zgl_1 := H.frozen (g := gl) m2 1; have kgx_0 : w34.cell? ⟨gx, 0, none⟩ = some (.bool (ng n)) := H.cell m3 0; have zgx_0 := H.frozen (g := gx) m3 0; have kgx_1 : w34.cell? ⟨gx, 1, none⟩ = some (.slice A4 (ln n) c5) := H.cell m3 1; have zgx_1 := H.frozen (g := gx) m3 1)
    | (clear st37; go_at_call 34; (with_reducible refine (CmpQ (H.row _ m0) (H.row _ m2) (lim bY.out (by decide)) (lim blo.out (by decide)) k1 c1.out).mono ?_); rintro e w36 ⟨rfl, hb⟩; replace H := H.call hb; clear hb; clear kgy_0 zgy_0 kgy_1 zgy_1 kgh_0 zgh_0 kgh_1 zgh_1 kgl_0 zgl_0 kgl_1 zgl_1 kgx_0 zgx_0 kgx_1 zgx_1; have kgy_0 : w36.cell? ⟨gy, 0, none⟩ = some (.bool (ng y)) := H.cell m0 0; have zgy_0 := H.frozen (g := gy) m0 0; have kgy_1 : w36.cell? ⟨gy, 1, none⟩ = some (.slice A28 (ln y) c29) := H.cell m0 1; have zgy_1 := H.frozen (g := gy) m0 1; have kgh_0 : w36.cell? ⟨gh, 0, none⟩ = some (.bool (ng hi)) := H.cell m1 0; have zgh_0 := H.frozen (g := gh) m1 0; have kgh_1 : w36.cell? ⟨gh, 1, none⟩ = some (.slice A19 (ln hi) c20) := H.cell m1 1; have zgh_1 := H.frozen (g := gh) m1 1; have kgl_0 : w36.cell? ⟨gl, 0, none⟩ = some (.bool (ng lo)) := H.cell m2 0; have zgl_0 := H.frozen (g := gl) m2 0; have kgl_1 : w36.cell? ⟨gl, 1, none⟩ = some (.slice A15 (ln lo) c16) := H.cell m2 1; have zgl_1 := H.frozen (g := gl) m2 1; have kgx_0 : w36.cell? ⟨gx, 0, none⟩ = some (.bool (ng n)) := H.cell m3 0; have zgx_0 := H.frozen (g := gx) m3 0; have kgx_1 : w36.cell? ⟨gx, 1, none⟩ = some (.slice A4 (ln n) c5) := H.cell m3 1; have zgx_1 := H.frozen (g := gx) m3 1)
    | (clear st39; go_at_call 34; (with_reducible refine (CmpQ (H.row _ m0) (H.row _ m1) (lim bY.out (by decide)) (lim bhi.out (by decide)) k2 c2.out).mono ?_); rintro e w38 ⟨rfl, hb⟩; replace H := H.call hb; clear hb; clear kgy_0 zgy_0 kgy_1 zgy_1 kgh_0 zgh_0 kgh_1 zgh_1 kgl_0 zgl_0 kgl_1 zgl_1 kgx_0 zgx_0 kgx_1 zgx_1; have kgy_0 : w38.cell? ⟨gy, 0, none⟩ = some (.bool (ng y)) := H.cell m0 0; have zgy_0 := H.frozen (g := gy) m0 0; have kgy_1 : w38.cell? ⟨gy, 1, none⟩ = some (.slice A28 (ln y) c29) := H.cell m0 1; have zgy_1 := H.frozen (g := gy) m0 1; have kgh_0 : w38.cell? ⟨gh, 0, none⟩ = some (.bool (ng hi)) := H.cell m1 0; have zgh_0 := H.frozen (g := gh) m1 0; have kgh_1 : w38.cell? ⟨gh, 1, none⟩ = some (.slice A19 (ln hi) c20) := H.cell m1 1; have zgh_1 := H.frozen (g := gh) m1 1; have kgl_0 : w38.cell? ⟨gl, 0, none⟩ = some (.bool (ng lo)) := H.cell m2 0; have zgl_0 := H.frozen (g := gl) m2 0; have kgl_1 : w38.cell? ⟨gl, 1, none⟩ = some (.slice A15 (ln lo) c16) := H.cell m2 1; have zgl_1 := H.frozen (g := gl) m2 1; have kgx_0 : w38.cell? ⟨gx, 0, none⟩ = some (.bool (ng n)) := H.cell m3 0; have zgx_0 := H.frozen (g := gx) m3 0; have kgx_1 : w38.cell? ⟨gx, 1, none⟩ = some (.slice A4 (ln n) c5) := H.cell m3 1; have zgx_1 := H.frozen (g := gx) m3 1))
  (try simp only [Act.put, List.setIfInBounds_toArray, List.set_cons_zero, List.set_cons_succ])
  have by_ := bY
  clear kgy_0 zgy_0 kgy_1 zgy_1 kgh_0 zgh_0 kgh_1 zgh_1 kgl_0 zgl_0 kgl_1 zgl_1 kgx_0 zgx_0 kgx_1 zgx_1
  replace H := H.drew
  refine start_ (n := 17) (S := fun w' => w'.cell? ⟨gy, 0, none⟩ = some (.bool (ng y)) ∧ w'.cell? ⟨gy, 1, none⟩ = some (.slice A28 (ln y) c29)) (ds := []) #[false, false, false, false, false, false, false, false, false, false, false, false, false, false, false, false, false] (by kernel_rfl) rfl rfl ⟨H.cell m0 0, H.cell m0 1⟩ (fun hHeld => ?_)
  generalize w38.drew = w40 at H hHeld ⊢
  refine with_tabW tb14.tab21 tb14.bits21 (fun HT_ HW_ => ?_)
  refine pure_ (i := 0) (N := some 70) (v := ?_) (a' := ?_) #[true, false, false, false, false, false, false, false, false, false, false, false, false, false, false, false, false] rfl rfl (any_of HT_.out (by kernel_rfl)) (fun _ _ _ h => h) (Or.inl ⟨by rfl, ?_⟩) ?_ ?_
  rotate_left
  · intro w'
    go_simp
    with_reducible rfl
  rotate_left
  · simp only [Act.put, List.setIfInBounds_toArray, List.set_cons_zero, List.set_cons_succ, i64_w, i32_w]
    rfl
  refine pure_ (i := 1) (N := some 71) (v := ?_) (a' := ?_) #[true, true, false, false, false, false, false, false, false, false, false, false, false, false, false, false, false] rfl rfl (any_of HT_.out (by kernel_rfl)) (fun _ _ _ h => h) (Or.inl ⟨by rfl, ?_⟩) ?_ ?_
  rotate_left
  · intro w'
    go_simp
    with_reducible rfl
  rotate_left
  · simp only [Act.put, List.setIfInBounds_toArray, List.set_cons_zero, List.set_cons_succ, i64_w, i32_w]
    rfl
  refine pure_ (i := 2) (N := some 72) (v := ?_) (a' := ?_) #[true, true, true, false, false, false, false, false, false, false, false, false, false, false, false, false, false] rfl rfl (any_of HT_.out (by kernel_rfl)) (fun _ _ _ h => h) (Or.inl ⟨by rfl, ?_⟩) ?_ ?_
  rotate_left
  · intro w'
    go_simp
    with_reducible rfl
  rotate_left
  · simp only [Act.put, List.setIfInBounds_toArray, List.set_cons_zero, List.set_cons_succ, i64_w, i32_w]
    rfl
  refine pure_ (i := 3) (N := some 73) (v := undef) (a' := ?_) #[true, true, true, true, false, false, false, false, false, false, false, false, false, false, false, false, false] rfl rfl (any_of HT_.out (by kernel_rfl)) (fun _ _ _ h => h) (Or.inr ⟨by rfl, rfl⟩) ?_ ?_
  rotate_left
  · simp only [Act.put, List.setIfInBounds_toArray, List.set_cons_zero, List.set_cons_succ, i64_w, i32_w]
    rfl
  refine pure_ (i := 4) (N := some 74) (v := undef) (a' := ?_) #[true, true, true, true, true, false, false, false, false, false, false, false, false, false, false, false, false] rfl rfl (any_of HT_.out (by kernel_rfl)) (fun _ _ _ h => h) (Or.inr ⟨by rfl, rfl⟩) ?_ ?_
  rotate_left
  · simp only [Act.put, List.setIfInBounds_toArray, List.set_cons_zero, List.set_cons_succ, i64_w, i32_w]
    rfl
  refine pure_ (i := 5) (N := some 75) (v := ?_) (a' := ?_) #[true, true, true, true, true, true, false, false, false, false, false, false, false, false, false, false, false] rfl rfl (any_of HT_.out (by kernel_rfl)) (fun _ _ _ h => h) (Or.inl ⟨by rfl, ?_⟩) ?_ ?_
  rotate_left
  · intro w'
    go_simp
    with_reducible rfl
  rotate_left
  · simp only [Act.put, List.setIfInBounds_toArray, List.set_cons_zero, List.set_cons_succ, i64_w, i32_w]
    rfl
  refine pure_ (i := 6) (N := some 76) (v := ?_) (a' := ?_) #[true, true, true, true, true, true, true, false, false, false, false, false, false, false, false, false, false] rfl rfl (any_of HT_.out (by kernel_rfl)) (fun _ _ _ h => h) (Or.inl ⟨by rfl, ?_⟩) ?_ ?_
  rotate_left
  · intro w'
    go_simp
    with_reducible rfl
  rotate_left
  · simp only [Act.put, List.setIfInBounds_toArray, List.set_cons_zero, List.set_cons_succ, i64_w, i32_w]
    rfl
  refine pure_ (i := 7) (N := some 77) (v := ?_) (a' := ?_) #[true, true, true, true, true, true, true, true, false, false, false, false, false, false, false, false, false] rfl rfl (any_of HT_.out (by kernel_rfl)) (fun _ _ _ h => h) (Or.inl ⟨by rfl, ?_⟩) ?_ ?_
  rotate_left
  · intro w'
    go_simp
    with_reducible rfl
  rotate_left
  · simp only [Act.put, List.setIfInBounds_toArray, List.set_cons_zero, List.set_cons_succ, i64_w, i32_w]
    rfl
  refine pure_ (i := 8) (N := some 78) (v := ?_) (a' := ?_) #[true, true, true, true, true, true, true, true, true, false, false, false, false, false, false, false, false] rfl rfl (any_of HT_.out (by kernel_rfl)) (fun _ _ _ h => h) (Or.inl ⟨by rfl, ?_⟩) ?_ ?_
  rotate_left
  · intro w'
    go_simp
    with_reducible rfl
  rotate_left
  · simp only [Act.put, List.setIfInBounds_toArray, List.set_cons_zero, List.set_cons_succ, i64_w, i32_w]
    rfl
  refine pure_ (i := 9) (N := some 79) (v := ?_) (a' := ?_) #[true, true, true, true, true, true, true, true, true, true, false, false, false, false, false, false, false] rfl rfl (any_of HT_.out (by kernel_rfl)) (fun _ _ _ h => h) (Or.inl ⟨by rfl, ?_⟩) ?_ ?_
  rotate_left
  · intro w'
    go_simp
    with_reducible rfl
  rotate_left
  · simp only [Act.put, List.setIfInBounds_toArray, List.set_cons_zero, List.set_cons_succ, i64_w, i32_w]
    rfl
  refine take_ (i := 11) (N := some 81) (v := ?_) (a' := ?_) #[true, true, true, true, true, true, true, true, true, true, false, true, false, false, false, false, false] rfl rfl (take_ofW HT_.out HW_.out (by kernel_rfl)) (fun _ _ _ h => h) (Or.inl ⟨by rfl, ?_⟩) hHeld ?_ ?_
  rotate_left
  · rintro w' ⟨s0, s1⟩
    go_simp
    with_reducible rfl
  rotate_left
  · simp only [Act.put, List.setIfInBounds_toArray, List.set_cons_zero, List.set_cons_succ, i64_w, i32_w]
    rfl
  refine one_ (i := 10) (N := some 80) #[true, true, true, true, true, true, true, true, true, true, true, true, false, false, false, false, false] rfl rfl (one_of HT_.out (by kernel_rfl)) (by decide) (fun K hK => ?_)
  refine goes_ Try.func27 (by kernel_rfl) rfl #[.int .i64 y] (by rfl) rfl rfl (by (try simp only [List.map_toArray, List.map_cons, List.map_nil]); first | done | rfl) ?_
  with_reducible refine (OfQ _ y y2 hy2.out (by omega) (by omega)).mono ?_
  rintro e w41 ⟨A42, c43, rfl, hr, hb⟩
  replace H := H.got (fresh_row hr) hb
  clear hr hb
  refine ⟨_, rfl, ?_⟩
  refine hK.out _ _ ⟨H.cell m0 0, H.cell m0 1⟩ (fun hHeld => ?_)
  clear hK K
  refine norm_ (a' := ?_) ?_ ?_
  rotate_left
  · show Act.put _ (some 80) _ = _
    simp only [Act.put, List.setIfInBounds_toArray, List.set_cons_zero, List.set_cons_succ, i64_w, i32_w]
    rfl
  refine one_ (i := 12) (N := some 82) #[true, true, true, true, true, true, true, true, true, true, true, true, true, false, false, false, false] rfl rfl (one_of HT_.out (by kernel_rfl)) (by decide) (fun K hK => ?_)
  refine goes_ Try.func34 (by kernel_rfl) rfl #[.agg #[.bool (ng y2), .slice A42 (ln y2) c43], .agg #[.bool (ng y), .slice A28 (ln y) c29]] (by rfl) rfl rfl (by (try simp only [List.map_toArray, List.map_cons, List.map_nil]); first | done | rfl) ?_
  with_reducible refine (CmpQ (H.row _ m0) (H.row _ m1) (lim by2.out (by decide)) (lim bY.out (by decide)) 0 hc.out).mono ?_
  rintro e w44 ⟨rfl, hb⟩
  replace H := H.call hb
  clear hb
  refine ⟨_, rfl, ?_⟩
  refine hK.out _ _ ⟨H.cell m0 0, H.cell m0 1⟩ (fun hHeld => ?_)
  clear hK K
  refine norm_ (a' := ?_) ?_ ?_
  rotate_left
  · show Act.put _ (some 82) _ = _
    simp only [Act.put, List.setIfInBounds_toArray, List.set_cons_zero, List.set_cons_succ, i64_w, i32_w]
    rfl
  refine pure_ (i := 13) (N := some 83) (v := ?_) (a' := ?_) #[true, true, true, true, true, true, true, true, true, true, true, true, true, true, false, false, false] rfl rfl (any_of HT_.out (by kernel_rfl)) (fun _ _ _ h => h) (Or.inl ⟨by rfl, ?_⟩) ?_ ?_
  rotate_left
  · intro w'
    go_simp
    with_reducible rfl
  rotate_left
  · simp only [Act.put, List.setIfInBounds_toArray, List.set_cons_zero, List.set_cons_succ, i64_w, i32_w]
    rfl
  refine pure_ (i := 14) (N := some 84) (v := ?_) (a' := ?_) #[true, true, true, true, true, true, true, true, true, true, true, true, true, true, true, false, false] rfl rfl (any_of HT_.out (by kernel_rfl)) (fun _ _ _ h => h) (Or.inl ⟨by rfl, ?_⟩) ?_ ?_
  rotate_left
  · intro w'
    go_simp
    with_reducible rfl
  rotate_left
  · simp only [Act.put, List.setIfInBounds_toArray, List.set_cons_zero, List.set_cons_succ, i64_w, i32_w]
    rfl
  refine pure_ (i := 15) (N := some 85) (v := ?_) (a' := ?_) #[true, true, true, true, true, true, true, true, true, true, true, true, true, true, true, true, false] rfl rfl (any_of HT_.out (by kernel_rfl)) (fun _ _ _ h => h) (Or.inl ⟨by rfl, ?_⟩) ?_ ?_
  rotate_left
  · intro w'
    go_simp
    with_reducible rfl
  rotate_left
  · simp only [Act.put, List.setIfInBounds_toArray, List.set_cons_zero, List.set_cons_succ, i64_w, i32_w]
    rfl
  refine pure_ (i := 16) (N := some 4) (v := ?_) (a' := ?_) #[true, true, true, true, true, true, true, true, true, true, true, true, true, true, true, true, true] rfl rfl (any_of HT_.out (by kernel_rfl)) (fun _ _ _ h => h) (Or.inl ⟨by rfl, ?_⟩) ?_ ?_
  rotate_left
  · intro w'
    go_simp
    with_reducible rfl
  rotate_left
  · simp only [Act.put, List.setIfInBounds_toArray, List.set_cons_zero, List.set_cons_succ, i64_w, i32_w]
    rfl
  refine done_ (done_of HT_.out (by kernel_rfl)) ?_
  try clear hHeld
  go_wp2
  go_ret
  exact ⟨rfl, H.below⟩

set_option maxHeartbeats 8000000 in
set_option maxRecDepth 100000 in
theorem ints_un_p (n : Int) (s : ByteArray) (w : World) (n0 : -9223372036854775808 ≤ n) (n1 : n ≤ 9223372036854775807) (hs : 0 < n) (hsz : s.size ≤ 80) (y : Int) (hy : Aside0 (pr s = (y, 0))) (hF : fitsI y = false) : Calls Try.prog 14 #[.int .i64 n, .string s] w (fun e W' => e = .returned (.bool true) ∧ Below w.heap.size w W') := by
  have d1 : decide (80 < (s.size : Int)) = false := decide_eq_false (by omega)
  have d2 : decide (80 < s.size) = false := decide_eq_false (by omega)
  have bY := Aside0.mk (pr_small hy.out hsz)
  obtain ⟨k1, ek1⟩ : ∃ v, cmp3 y (-9223372036854775808) = v := ⟨_, rfl⟩
  obtain ⟨k2, ek2⟩ : ∃ v, cmp3 y 9223372036854775807 = v := ⟨_, rfl⟩
  have hf := fits_iff y
  rw [ek1, ek2] at hf
  have hk1 := Aside0.mk ek1
  have hk2 := Aside0.mk ek2
  clear ek1 ek2
  have hfit := Aside0.mk hF
  have iy := Aside0.mk (show intOfI y = 0 by unfold intOfI; rw [if_neg (of_decide_eq_false hF)])
  rw [hF] at hf
  have hff := Aside0.mk hf
  clear hF hf
  have hu25 := Try.underlying25
  have H := Sit.start w (fun _ => False)
  have bn := Aside0.mk (bOf (r := n) (by omega))
  have i1 := Aside0.mk (show intOfI n = n from intOf_fit n0 n1)
  have f1 := Aside0.mk (show fitsI n = true from fits_fit n0 n1)
  have t1 : (n != n) = false := by simp
  have t2 : decide (0 < n) = true := decide_eq_true (by omega)
  have t3 : decide (n < 0) = false := decide_eq_false (by omega)
  have hsg := Aside0.mk (show sg n = 1 from sg_pos hs)
  obtain ⟨lo, elo⟩ : ∃ v : Int, (-9223372036854775808 : Int) = v := ⟨_, rfl⟩
  obtain ⟨hi, ehi⟩ : ∃ v : Int, (9223372036854775807 : Int) = v := ⟨_, rfl⟩
  have hlo := Aside0.mk elo
  have hhi := Aside0.mk ehi
  have blo := Aside0.mk (bOf (r := lo) (by omega))
  have bhi := Aside0.mk (bOf (r := hi) (by omega))
  clear elo ehi hs
  go_enter Try.func14, Try.ntmps14
  have st2 := trivial
  have st6 := trivial
  have st8 := trivial
  go_upto_region 4 with (first
    | (clear st2; go_at_call 22; (with_reducible refine (awake_ok _).mono ?_); rintro e wA ⟨rfl, hb⟩; replace H := H.call hb; clear hb)
    | (clear st6; go_at_call 27; (with_reducible refine (OfQ _ n n rfl (by omega) (by omega)).mono ?_); rintro e w3 ⟨A4, c5, rfl, hr, hb⟩; replace H := H.got (fresh_row hr) hb; clear hr hb)
    | (clear st8; (with_reducible refine gate_dst (N := 5) rfl ?_); refine box_event ?hg (N := 5) ?hd (cs := #[.bool false, .slice none 0 0]) (t := 25) ?hr ?_; (case hd => rfl); (case hg => rfl); (case hr => first | (go_simp; done) | (go_simp; rfl)); intro gx hg w7 hbox hb; replace H := H.newbox hg hbox hb; clear hg hbox hb; have kgx_0 : w7.cell? ⟨gx, 0, none⟩ = some (.bool false) := H.cell m0 0; have zgx_0 := H.frozen (g := gx) m0 0; have kgx_1 : w7.cell? ⟨gx, 1, none⟩ = some (.slice none 0 0) := H.cell m0 1; have zgx_1 := H.frozen (g := gx) m0 1))
  (try simp only [Act.put, List.setIfInBounds_toArray, List.set_cons_zero, List.set_cons_succ])
  replace H := ((H.setn [] 0 (.bool (ng n)) rfl).setn [] 1 (.slice A4 (ln n) c5) rfl)
  clear kgx_0 zgx_0 kgx_1 zgx_1
  generalize ((w7.setCell ⟨gx, 0, none⟩ (.bool (ng n))).setCell ⟨gx, 1, none⟩ (.slice A4 (ln n) c5)) = w9 at H ⊢
  have kgx_0 : w9.cell? ⟨gx, 0, none⟩ = some (.bool (ng n)) := H.cell m0 0
  have zgx_0 := H.frozen (g := gx) m0 0
  have kgx_1 : w9.cell? ⟨gx, 1, none⟩ = some (.slice A4 (ln n) c5) := H.cell m0 1
  have zgx_1 := H.frozen (g := gx) m0 1
  have st11 := trivial
  have st13 := trivial
  have st17 := trivial
  have st21 := trivial
  have st23 := trivial
  have st25 := trivial
  go_upto_region 13 with (first
    | (clear st11; go_at_call 29; (with_reducible refine (IntQ (H.row _ m0) n true i1.out f1.out).mono ?_); rintro e w10 ⟨rfl, hb⟩; replace H := H.call hb; clear hb; clear kgx_0 zgx_0 kgx_1 zgx_1; have kgx_0 : w10.cell? ⟨gx, 0, none⟩ = some (.bool (ng n)) := H.cell m0 0; have zgx_0 := H.frozen (g := gx) m0 0; have kgx_1 : w10.cell? ⟨gx, 1, none⟩ = some (.slice A4 (ln n) c5) := H.cell m0 1; have zgx_1 := H.frozen (g := gx) m0 1)
    | (clear st13; go_at_call 25; (with_reducible refine (SignQ _ _ _ (lim bn.out (by decide)) 1 hsg.out).mono ?_); rintro e w12 ⟨rfl, hb⟩; replace H := H.call hb; clear hb; clear kgx_0 zgx_0 kgx_1 zgx_1; have kgx_0 : w12.cell? ⟨gx, 0, none⟩ = some (.bool (ng n)) := H.cell m0 0; have zgx_0 := H.frozen (g := gx) m0 0; have kgx_1 : w12.cell? ⟨gx, 1, none⟩ = some (.slice A4 (ln n) c5) := H.cell m0 1; have zgx_1 := H.frozen (g := gx) m0 1)
    | (clear st17; go_at_call 27; (with_reducible refine (OfQ _ (-9223372036854775808) lo hlo.out (by omega) (by omega)).mono ?_); rintro e w14 ⟨A15, c16, rfl, hr, hb⟩; replace H := H.got (fresh_row hr) hb; clear hr hb; clear kgx_0 zgx_0 kgx_1 zgx_1; have kgx_0 : w14.cell? ⟨gx, 0, none⟩ = some (.bool (ng n)) := H.cell m0 0; have zgx_0 := H.frozen (g := gx) m0 0; have kgx_1 : w14.cell? ⟨gx, 1, none⟩ = some (.slice A4 (ln n) c5) := H.cell m0 1; have zgx_1 := H.frozen (g := gx) m0 1)
    | (clear st21; go_at_call 27; (with_reducible refine (OfQ _ 9223372036854775807 hi hhi.out (by omega) (by omega)).mono ?_); rintro e w18 ⟨A19, c20, rfl, hr, hb⟩; replace H := H.got (fresh_row hr) hb; clear hr hb; clear kgx_0 zgx_0 kgx_1 zgx_1; have kgx_0 : w18.cell? ⟨gx, 0, none⟩ = some (.bool (ng n)) := H.cell m0 0; have zgx_0 := H.frozen (g := gx) m0 0; have kgx_1 : w18.cell? ⟨gx, 1, none⟩ = some (.slice A4 (ln n) c5) := H.cell m0 1; have zgx_1 := H.frozen (g := gx) m0 1)
    | (clear st23; (with_reducible refine gate_dst (N := 9) rfl ?_); refine box_event ?hg (N := 9) ?hd (cs := #[.bool false, .slice none 0 0]) (t := 25) ?hr ?_; (case hd => rfl); (case hg => rfl); (case hr => first | (go_simp; done) | (go_simp; rfl)); intro gl hg w22 hbox hb; replace H := H.newbox hg hbox hb; clear hg hbox hb; clear kgx_0 zgx_0 kgx_1 zgx_1; have kgl_0 : w22.cell? ⟨gl, 0, none⟩ = some (.bool false) := H.cell m0 0; have zgl_0 := H.frozen (g := gl) m0 0; have kgl_1 : w22.cell? ⟨gl, 1, none⟩ = some (.slice none 0 0) := H.cell m0 1; have zgl_1 := H.frozen (g := gl) m0 1; have kgx_0 : w22.cell? ⟨gx, 0, none⟩ = some (.bool (ng n)) := H.cell m1 0; have zgx_0 := H.frozen (g := gx) m1 0; have kgx_1 : w22.cell? ⟨gx, 1, none⟩ = some (.slice A4 (ln n) c5) := H.cell m1 1; have zgx_1 := H.frozen (g := gx) m1 1; have ne_gl_gx := H.ne (g := gl) (g' := gx) 0 1 rfl rfl (by decide); have ne_gx_gl := ne_gl_gx.symm)
    | (clear st25; (with_reducible refine gate_dst (N := 10) rfl ?_); refine box_event ?hg (N := 10) ?hd (cs := #[.bool false, .slice none 0 0]) (t := 25) ?hr ?_; (case hd => rfl); (case hg => rfl); (case hr => first | (go_simp; done) | (go_simp; rfl)); intro gh hg w24 hbox hb; replace H := H.newbox hg hbox hb; clear hg hbox hb; clear kgl_0 zgl_0 kgl_1 zgl_1 kgx_0 zgx_0 kgx_1 zgx_1; have kgh_0 : w24.cell? ⟨gh, 0, none⟩ = some (.bool false) := H.cell m0 0; have zgh_0 := H.frozen (g := gh) m0 0; have kgh_1 : w24.cell? ⟨gh, 1, none⟩ = some (.slice none 0 0) := H.cell m0 1; have zgh_1 := H.frozen (g := gh) m0 1; have kgl_0 : w24.cell? ⟨gl, 0, none⟩ = some (.bool false) := H.cell m1 0; have zgl_0 := H.frozen (g := gl) m1 0; have kgl_1 : w24.cell? ⟨gl, 1, none⟩ = some (.slice none 0 0) := H.cell m1 1; have zgl_1 := H.frozen (g := gl) m1 1; have kgx_0 : w24.cell? ⟨gx, 0, none⟩ = some (.bool (ng n)) := H.cell m2 0; have zgx_0 := H.frozen (g := gx) m2 0; have kgx_1 : w24.cell? ⟨gx, 1, none⟩ = some (.slice A4 (ln n) c5) := H.cell m2 1; have zgx_1 := H.frozen (g := gx) m2 1; have ne_gh_gl := H.ne (g := gh) (g' := gl) 0 1 rfl rfl (by decide); have ne_gl_gh := ne_gh_gl.symm; have ne_gh_gx := H.ne (g := gh) (g' := gx) 0 2 rfl rfl (by decide); have ne_gx_gh := ne_gh_gx.symm))
  (try simp only [Act.put, List.setIfInBounds_toArray, List.set_cons_zero, List.set_cons_succ])
  replace H := ((((H.setn [_] 0 (.bool (ng lo)) rfl).setn [_] 1 (.slice A15 (ln lo) c16) rfl).setn [] 0 (.bool (ng hi)) rfl).setn [] 1 (.slice A19 (ln hi) c20) rfl)
  clear kgh_0 zgh_0 kgh_1 zgh_1 kgl_0 zgl_0 kgl_1 zgl_1 kgx_0 zgx_0 kgx_1 zgx_1
  generalize ((((w24.setCell ⟨gl, 0, none⟩ (.bool (ng lo))).setCell ⟨gl, 1, none⟩ (.slice A15 (ln lo) c16)).setCell ⟨gh, 0, none⟩ (.bool (ng hi))).setCell ⟨gh, 1, none⟩ (.slice A19 (ln hi) c20)) = w26 at H ⊢
  have kgh_0 : w26.cell? ⟨gh, 0, none⟩ = some (.bool (ng hi)) := H.cell m0 0
  have zgh_0 := H.frozen (g := gh) m0 0
  have kgh_1 : w26.cell? ⟨gh, 1, none⟩ = some (.slice A19 (ln hi) c20) := H.cell m0 1
  have zgh_1 := H.frozen (g := gh) m0 1
  have kgl_0 : w26.cell? ⟨gl, 0, none⟩ = some (.bool (ng lo)) := H.cell m1 0
  have zgl_0 := H.frozen (g := gl) m1 0
  have kgl_1 : w26.cell? ⟨gl, 1, none⟩ = some (.slice A15 (ln lo) c16) := H.cell m1 1
  have zgl_1 := H.frozen (g := gl) m1 1
  have kgx_0 : w26.cell? ⟨gx, 0, none⟩ = some (.bool (ng n)) := H.cell m2 0
  have zgx_0 := H.frozen (g := gx) m2 0
  have kgx_1 : w26.cell? ⟨gx, 1, none⟩ = some (.slice A4 (ln n) c5) := H.cell m2 1
  have zgx_1 := H.frozen (g := gx) m2 1
  have st30 := trivial
  have st32 := trivial
  go_upto_region 16 with (first
    | (clear st30; go_at_call 23; (with_reducible refine (ParseQ s _ y 0 hy.out).mono ?_); rintro e w27 ⟨A28, c29, rfl, hr, hb⟩; replace H := H.got (fresh_row hr) hb; clear hr hb; clear kgh_0 zgh_0 kgh_1 zgh_1 kgl_0 zgl_0 kgl_1 zgl_1 kgx_0 zgx_0 kgx_1 zgx_1; have kgh_0 : w27.cell? ⟨gh, 0, none⟩ = some (.bool (ng hi)) := H.cell m0 0; have zgh_0 := H.frozen (g := gh) m0 0; have kgh_1 : w27.cell? ⟨gh, 1, none⟩ = some (.slice A19 (ln hi) c20) := H.cell m0 1; have zgh_1 := H.frozen (g := gh) m0 1; have kgl_0 : w27.cell? ⟨gl, 0, none⟩ = some (.bool (ng lo)) := H.cell m1 0; have zgl_0 := H.frozen (g := gl) m1 0; have kgl_1 : w27.cell? ⟨gl, 1, none⟩ = some (.slice A15 (ln lo) c16) := H.cell m1 1; have zgl_1 := H.frozen (g := gl) m1 1; have kgx_0 : w27.cell? ⟨gx, 0, none⟩ = some (.bool (ng n)) := H.cell m2 0; have zgx_0 := H.frozen (g := gx) m2 0; have kgx_1 : w27.cell? ⟨gx, 1, none⟩ = some (.slice A4 (ln n) c5) := H.cell m2 1; have zgx_1 := H.frozen (g := gx) m2 1)
    | (clear st32; (with_reducible refine gate_dst (N := 11) rfl ?_); refine box_event ?hg (N := 11) ?hd (cs := #[.bool false, .slice none 0 0]) (t := 25) ?hr ?_; (case hd => rfl); (case hg => rfl); (case hr => first | (go_simp; done) | (go_simp; rfl)); intro gy hg w31 hbox hb; replace H := H.newbox hg hbox hb; clear hg hbox hb; clear kgh_0 zgh_0 kgh_1 zgh_1 kgl_0 zgl_0 kgl_1 zgl_1 kgx_0 zgx_0 kgx_1 zgx_1; have kgy_0 : w31.cell? ⟨gy, 0, none⟩ = some (.bool false) := H.cell m0 0; have zgy_0 := H.frozen (g := gy) m0 0; have kgy_1 : w31.cell? ⟨gy, 1, none⟩ = some (.slice none 0 0) := H.cell m0 1; have zgy_1 := H.frozen (g := gy) m0 1; have kgh_0 : w31.cell? ⟨gh, 0, none⟩ = some (.bool (ng hi)) := H.cell m1 0; have zgh_0 := H.frozen (g := gh) m1 0; have kgh_1 : w31.cell? ⟨gh, 1, none⟩ = some (.slice A19 (ln hi) c20) := H.cell m1 1; have zgh_1 := H.frozen (g := gh) m1 1; have kgl_0 : w31.cell? ⟨gl, 0, none⟩ = some (.bool (ng lo)) := H.cell m2 0; have zgl_0 := H.frozen (g := gl) m2 0; have kgl_1 : w31.cell? ⟨gl, 1, none⟩ = some (.slice A15 (ln lo) c16) := H.cell m2 1; have zgl_1 := H.frozen (g := gl) m2 1; have kgx_0 : w31.cell? ⟨gx, 0, none⟩ = some (.bool (ng n)) := H.cell m3 0; have zgx_0 := H.frozen (g := gx) m3 0; have kgx_1 : w31.cell? ⟨gx, 1, none⟩ = some (.slice A4 (ln n) c5) := H.cell m3 1; have zgx_1 := H.frozen (g := gx) m3 1; have ne_gy_gh := H.ne (g := gy) (g' := gh) 0 1 rfl rfl (by decide); have ne_gh_gy := ne_gy_gh.symm; have ne_gy_gl := H.ne (g := gy) (g' := gl) 0 2 rfl rfl (by decide); have ne_gl_gy := ne_gy_gl.symm; have ne_gy_gx := H.ne (g := gy) (g' := gx) 0 3 rfl rfl (by decide); have ne_gx_gy := ne_gy_gx.symm))
  (try simp only [Act.put, List.setIfInBounds_toArray, List.set_cons_zero, List.set_cons_succ])
  replace H := ((H.setn [] 0 (.bool (ng y)) rfl).setn [] 1 (.slice A28 (ln y) c29) rfl)
  clear kgy_0 zgy_0 kgy_1 zgy_1 kgh_0 zgh_0 kgh_1 zgh_1 kgl_0 zgl_0 kgl_1 zgl_1 kgx_0 zgx_0 kgx_1 zgx_1
  generalize ((w31.setCell ⟨gy, 0, none⟩ (.bool (ng y))).setCell ⟨gy, 1, none⟩ (.slice A28 (ln y) c29)) = w33 at H ⊢
  have kgy_0 : w33.cell? ⟨gy, 0, none⟩ = some (.bool (ng y)) := H.cell m0 0
  have zgy_0 := H.frozen (g := gy) m0 0
  have kgy_1 : w33.cell? ⟨gy, 1, none⟩ = some (.slice A28 (ln y) c29) := H.cell m0 1
  have zgy_1 := H.frozen (g := gy) m0 1
  have kgh_0 : w33.cell? ⟨gh, 0, none⟩ = some (.bool (ng hi)) := H.cell m1 0
  have zgh_0 := H.frozen (g := gh) m1 0
  have kgh_1 : w33.cell? ⟨gh, 1, none⟩ = some (.slice A19 (ln hi) c20) := H.cell m1 1
  have zgh_1 := H.frozen (g := gh) m1 1
  have kgl_0 : w33.cell? ⟨gl, 0, none⟩ = some (.bool (ng lo)) := H.cell m2 0
  have zgl_0 := H.frozen (g := gl) m2 0
  have kgl_1 : w33.cell? ⟨gl, 1, none⟩ = some (.slice A15 (ln lo) c16) := H.cell m2 1
  have zgl_1 := H.frozen (g := gl) m2 1
  have kgx_0 : w33.cell? ⟨gx, 0, none⟩ = some (.bool (ng n)) := H.cell m3 0
  have zgx_0 := H.frozen (g := gx) m3 0
  have kgx_1 : w33.cell? ⟨gx, 1, none⟩ = some (.slice A4 (ln n) c5) := H.cell m3 1
  have zgx_1 := H.frozen (g := gx) m3 1
  have st35 := trivial
  have c1 := Aside0.mk (show cmp3 y lo = k1 by rw [← hlo.out]; exact hk1.out)
  have c2 := Aside0.mk (show cmp3 y hi = k2 by rw [← hhi.out]; exact hk2.out)
  by_cases hu : 0 ≤ k1
  · skip
    have u1 : decide (0 ≤ k1) = true := decide_eq_true hu
    have u2 : decide (k2 ≤ 0) = false := by have hf := hff.out; have u1' : decide (k1 ≥ 0) = true := u1; rw [u1', Bool.true_and] at hf; exact hf.symm
    have st37 := trivial
    have st39 := trivial
    go_upto_region 21 with (first
      | (clear st35; go_at_call 29; (with_reducible refine (IntQ (H.row _ m0) 0 false iy.out hfit.out).mono ?_); rintro e w34 ⟨rfl, hb⟩; replace H := H.call hb; clear hb; clear kgy_0 zgy_0 kgy_1 zgy_1 kgh_0 zgh_0 kgh_1 zgh_1 kgl_0 zgl_0 kgl_1 zgl_1 kgx_0 zgx_0 kgx_1 zgx_1; have kgy_0 : w34.cell? ⟨gy, 0, none⟩ = some (.bool (ng y)) := H.cell m0 0; have zgy_0 := H.frozen (g := gy) m0 0; have kgy_1 : w34.cell? ⟨gy, 1, none⟩ = some (.slice A28 (ln y) c29) := H.cell m0 1; have zgy_1 := H.frozen (g := gy) m0 1; have kgh_0 : w34.cell? ⟨gh, 0, none⟩ = some (.bool (ng hi)) := H.cell m1 0; have zgh_0 := H.frozen (g := gh) m1 0; have kgh_1 : w34.cell? ⟨gh, 1, none⟩ = some (.slice A19 (ln hi) c20) := H.cell m1 1; have zgh_1 := H.frozen (g := gh) m1 1; have kgl_0 : w34.cell? ⟨gl, 0, none⟩ = some (.bool (ng lo)) := H.cell m2 0; have zgl_0 := H.frozen (g := gl) m2 0; have kgl_1 : w34.cell? ⟨gl, 1, none⟩ = some (.slice A15 (ln lo) c16) := H.cell m2 1; have zgl_1 := H.frozen (g := gl) m2 1; have kgx_0 : w34.cell? ⟨gx, 0, none⟩ = some (.bool (ng n)) := H.cell m3 0; have zgx_0 := H.frozen (g := gx) m3 0; have kgx_1 : w34.cell? ⟨gx, 1, none⟩ = some (.slice A4 (ln n) c5) := H.cell m3 1; have zgx_1 := H.frozen (g := gx) m3 1)
      | (clear st37; go_at_call 34; (with_reducible refine (CmpQ (H.row _ m0) (H.row _ m2) (lim bY.out (by decide)) (lim blo.out (by decide)) k1 c1.out).mono ?_); rintro e w36 ⟨rfl, hb⟩; replace H := H.call hb; clear hb; clear kgy_0 zgy_0 kgy_1 zgy_1 kgh_0 zgh_0 kgh_1 zgh_1 kgl_0 zgl_0 kgl_1 zgl_1 kgx_0 zgx_0 kgx_1 zgx_1; have kgy_0 : w36.cell? ⟨gy, 0, none⟩ = some (.bool (ng y)) := H.cell m0 0; have zgy_0 := H.frozen (g := gy) m0 0; have kgy_1 : w36.cell? ⟨gy, 1, none⟩ = some (.slice A28 (ln y) c29) := H.cell m0 1; have zgy_1 := H.frozen (g := gy) m0 1; have kgh_0 : w36.cell? ⟨gh, 0, none⟩ = some (.bool (ng hi)) := H.cell m1 0; have zgh_0 := H.frozen (g := gh) m1 0; have kgh_1 : w36.cell? ⟨gh, 1, none⟩ = some (.slice A19 (ln hi) c20) := H.cell m1 1; have zgh_1 := H.frozen (g := gh) m1 1; have kgl_0 : w36.cell? ⟨gl, 0, none⟩ = some (.bool (ng lo)) := H.cell m2 0; have zgl_0 := H.frozen (g := gl) m2 0; have kgl_1 : w36.cell? ⟨gl, 1, none⟩ = some (.slice A15 (ln lo) c16) := H.cell m2 1; have zgl_1 := H.frozen (g := gl) m2 1; have kgx_0 : w36.cell? ⟨gx, 0, none⟩ = some (.bool (ng n)) := H.cell m3 0; have zgx_0 := H.frozen (g := gx) m3 0; have kgx_1 : w36.cell? ⟨gx, 1, none⟩ = some (.slice A4 (ln n) c5) := H.cell m3 1; have zgx_1 := H.frozen (g := gx) m3 1)
      | (clear st39; go_at_call 34; (with_reducible refine (CmpQ (H.row _ m0) (H.row _ m1) (lim bY.out (by decide)) (lim bhi.out (by decide)) k2 c2.out).mono ?_); rintro e w38 ⟨rfl, hb⟩; replace H := H.call hb; clear hb; clear kgy_0 zgy_0 kgy_1 zgy_1 kgh_0 zgh_0 kgh_1 zgh_1 kgl_0 zgl_0 kgl_1 zgl_1 kgx_0 zgx_0 kgx_1 zgx_1; have kgy_0 : w38.cell? ⟨gy, 0, none⟩ = some (.bool (ng y)) := H.cell m0 0; have zgy_0 := H.frozen (g := gy) m0 0; have kgy_1 : w38.cell? ⟨gy, 1, none⟩ = some (.slice A28 (ln y) c29) := H.cell m0 1; have zgy_1 := H.frozen (g := gy) m0 1; have kgh_0 : w38.cell? ⟨gh, 0, none⟩ = some (.bool (ng hi)) := H.cell m1 0; have zgh_0 := H.frozen (g := gh) m1 0; have kgh_1 : w38.cell? ⟨gh, 1, none⟩ = some (.slice A19 (ln hi) c20) := H.cell m1 1; have zgh_1 := H.frozen (g := gh) m1 1; have kgl_0 : w38.cell? ⟨gl, 0, none⟩ = some (.bool (ng lo)) := H.cell m2 0; have zgl_0 := H.frozen (g := gl) m2 0; have kgl_1 : w38.cell? ⟨gl, 1, none⟩ = some (.slice A15 (ln lo) c16) := H.cell m2 1; have zgl_1 := H.frozen (g := gl) m2 1; have kgx_0 : w38.cell? ⟨gx, 0, none⟩ = some (.bool (ng n)) := H.cell m3 0; have zgx_0 := H.frozen (g := gx) m3 0; have kgx_1 : w38.cell? ⟨gx, 1, none⟩ = some (.slice A4 (ln n) c5) := H.cell m3 1; have zgx_1 := H.frozen (g := gx) m3 1))
    (try simp only [Act.put, List.setIfInBounds_toArray, List.set_cons_zero, List.set_cons_succ])
    clear kgy_0 zgy_0 kgy_1 zgy_1 kgh_0 zgh_0 kgh_1 zgh_1 kgl_0 zgl_0 kgl_1 zgl_1 kgx_0 zgx_0 kgx_1 zgx_1
    replace H := H.drew
    refine start_ (n := 17) (S := fun w' => True) (ds := []) #[false, false, false, false, false, false, false, false, false, false, false, false, false, false, false, false, false] (by kernel_rfl) rfl rfl trivial (fun hHeld => ?_)
    generalize w38.drew = w40 at H hHeld ⊢
    refine with_tabW tb14.tab21 tb14.bits21 (fun HT_ HW_ => ?_)
    refine pure_ (i := 0) (N := some 70) (v := ?_) (a' := ?_) #[true, false, false, false, false, false, false, false, false, false, false, false, false, false, false, false, false] rfl rfl (any_of HT_.out (by kernel_rfl)) (fun _ _ _ h => h) (Or.inl ⟨by rfl, ?_⟩) ?_ ?_
    rotate_left
    · intro w'
      go_simp
      with_reducible rfl
    rotate_left
    · simp only [Act.put, List.setIfInBounds_toArray, List.set_cons_zero, List.set_cons_succ, i64_w, i32_w]
      rfl
    refine pure_ (i := 1) (N := some 71) (v := ?_) (a' := ?_) #[true, true, false, false, false, false, false, false, false, false, false, false, false, false, false, false, false] rfl rfl (any_of HT_.out (by kernel_rfl)) (fun _ _ _ h => h) (Or.inl ⟨by rfl, ?_⟩) ?_ ?_
    rotate_left
    · intro w'
      go_simp
      with_reducible rfl
    rotate_left
    · simp only [Act.put, List.setIfInBounds_toArray, List.set_cons_zero, List.set_cons_succ, i64_w, i32_w]
      rfl
    refine pure_ (i := 2) (N := some 72) (v := ?_) (a' := ?_) #[true, true, true, false, false, false, false, false, false, false, false, false, false, false, false, false, false] rfl rfl (any_of HT_.out (by kernel_rfl)) (fun _ _ _ h => h) (Or.inl ⟨by rfl, ?_⟩) ?_ ?_
    rotate_left
    · intro w'
      go_simp
      with_reducible rfl
    rotate_left
    · simp only [Act.put, List.setIfInBounds_toArray, List.set_cons_zero, List.set_cons_succ, i64_w, i32_w]
      rfl
    refine pure_ (i := 3) (N := some 73) (v := ?_) (a' := ?_) #[true, true, true, true, false, false, false, false, false, false, false, false, false, false, false, false, false] rfl rfl (any_of HT_.out (by kernel_rfl)) (fun _ _ _ h => h) (Or.inl ⟨by rfl, ?_⟩) ?_ ?_
    rotate_left
    · intro w'
      go_simp
      with_reducible rfl
    rotate_left
    · simp only [Act.put, List.setIfInBounds_toArray, List.set_cons_zero, List.set_cons_succ, i64_w, i32_w]
      rfl
    refine pure_ (i := 4) (N := some 74) (v := ?_) (a' := ?_) #[true, true, true, true, true, false, false, false, false, false, false, false, false, false, false, false, false] rfl rfl (any_of HT_.out (by kernel_rfl)) (fun _ _ _ h => h) (Or.inl ⟨by rfl, ?_⟩) ?_ ?_
    rotate_left
    · intro w'
      go_simp
      with_reducible rfl
    rotate_left
    · simp only [Act.put, List.setIfInBounds_toArray, List.set_cons_zero, List.set_cons_succ, i64_w, i32_w]
      rfl
    refine pure_ (i := 5) (N := some 75) (v := ?_) (a' := ?_) #[true, true, true, true, true, true, false, false, false, false, false, false, false, false, false, false, false] rfl rfl (any_of HT_.out (by kernel_rfl)) (fun _ _ _ h => h) (Or.inl ⟨by rfl, ?_⟩) ?_ ?_
    rotate_left
    · intro w'
      go_simp
      with_reducible rfl
    rotate_left
    · simp only [Act.put, List.setIfInBounds_toArray, List.set_cons_zero, List.set_cons_succ, i64_w, i32_w]
      rfl
    refine pure_ (i := 6) (N := some 76) (v := ?_) (a' := ?_) #[true, true, true, true, true, true, true, false, false, false, false, false, false, false, false, false, false] rfl rfl (any_of HT_.out (by kernel_rfl)) (fun _ _ _ h => h) (Or.inl ⟨by rfl, ?_⟩) ?_ ?_
    rotate_left
    · intro w'
      go_simp
      with_reducible rfl
    rotate_left
    · simp only [Act.put, List.setIfInBounds_toArray, List.set_cons_zero, List.set_cons_succ, i64_w, i32_w]
      rfl
    refine pure_ (i := 7) (N := some 77) (v := undef) (a' := ?_) #[true, true, true, true, true, true, true, true, false, false, false, false, false, false, false, false, false] rfl rfl (any_of HT_.out (by kernel_rfl)) (fun _ _ _ h => h) (Or.inr ⟨by rfl, rfl⟩) ?_ ?_
    rotate_left
    · simp only [Act.put, List.setIfInBounds_toArray, List.set_cons_zero, List.set_cons_succ, i64_w, i32_w]
      rfl
    refine pure_ (i := 8) (N := some 78) (v := undef) (a' := ?_) #[true, true, true, true, true, true, true, true, true, false, false, false, false, false, false, false, false] rfl rfl (any_of HT_.out (by kernel_rfl)) (fun _ _ _ h => h) (Or.inr ⟨by rfl, rfl⟩) ?_ ?_
    rotate_left
    · simp only [Act.put, List.setIfInBounds_toArray, List.set_cons_zero, List.set_cons_succ, i64_w, i32_w]
      rfl
    refine pure_ (i := 9) (N := some 79) (v := undef) (a' := ?_) #[true, true, true, true, true, true, true, true, true, true, false, false, false, false, false, false, false] rfl rfl (any_of HT_.out (by kernel_rfl)) (fun _ _ _ h => h) (Or.inr ⟨by rfl, rfl⟩) ?_ ?_
    rotate_left
    · simp only [Act.put, List.setIfInBounds_toArray, List.set_cons_zero, List.set_cons_succ, i64_w, i32_w]
      rfl
    refine pure_ (i := 10) (N := some 80) (v := undef) (a' := ?_) #[true, true, true, true, true, true, true, true, true, true, true, false, false, false, false, false, false] rfl rfl (any_of HT_.out (by kernel_rfl)) (fun _ _ _ h => h) (Or.inr ⟨by rfl, rfl⟩) ?_ ?_
    rotate_left
    · simp only [Act.put, List.setIfInBounds_toArray, List.set_cons_zero, List.set_cons_succ, i64_w, i32_w]
      rfl
    refine pure_ (i := 11) (N := some 81) (v := undef) (a' := ?_) #[true, true, true, true, true, true, true, true, true, true, true, true, false, false, false, false, false] rfl rfl (any_of HT_.out (by kernel_rfl)) (fun _ _ _ h => h) (Or.inr ⟨by rfl, rfl⟩) ?_ ?_
    rotate_left
    · simp only [Act.put, List.setIfInBounds_toArray, List.set_cons_zero, List.set_cons_succ, i64_w, i32_w]
      rfl
    refine pure_ (i := 12) (N := some 82) (v := undef) (a' := ?_) #[true, true, true, true, true, true, true, true, true, true, true, true, true, false, false, false, false] rfl rfl (any_of HT_.out (by kernel_rfl)) (fun _ _ _ h => h) (Or.inr ⟨by rfl, rfl⟩) ?_ ?_
    rotate_left
    · simp only [Act.put, List.setIfInBounds_toArray, List.set_cons_zero, List.set_cons_succ, i64_w, i32_w]
      rfl
    refine pure_ (i := 13) (N := some 83) (v := undef) (a' := ?_) #[true, true, true, true, true, true, true, true, true, true, true, true, true, true, false, false, false] rfl rfl (any_of HT_.out (by kernel_rfl)) (fun _ _ _ h => h) (Or.inr ⟨by rfl, rfl⟩) ?_ ?_
    rotate_left
    · simp only [Act.put, List.setIfInBounds_toArray, List.set_cons_zero, List.set_cons_succ, i64_w, i32_w]
      rfl
    refine pure_ (i := 14) (N := some 84) (v := undef) (a' := ?_) #[true, true, true, true, true, true, true, true, true, true, true, true, true, true, true, false, false] rfl rfl (any_of HT_.out (by kernel_rfl)) (fun _ _ _ h => h) (Or.inr ⟨by rfl, rfl⟩) ?_ ?_
    rotate_left
    · simp only [Act.put, List.setIfInBounds_toArray, List.set_cons_zero, List.set_cons_succ, i64_w, i32_w]
      rfl
    refine pure_ (i := 15) (N := some 85) (v := ?_) (a' := ?_) #[true, true, true, true, true, true, true, true, true, true, true, true, true, true, true, true, false] rfl rfl (any_of HT_.out (by kernel_rfl)) (fun _ _ _ h => h) (Or.inl ⟨by rfl, ?_⟩) ?_ ?_
    rotate_left
    · intro w'
      go_simp
      with_reducible rfl
    rotate_left
    · simp only [Act.put, List.setIfInBounds_toArray, List.set_cons_zero, List.set_cons_succ, i64_w, i32_w]
      rfl
    refine pure_ (i := 16) (N := some 4) (v := ?_) (a' := ?_) #[true, true, true, true, true, true, true, true, true, true, true, true, true, true, true, true, true] rfl rfl (any_of HT_.out (by kernel_rfl)) (fun _ _ _ h => h) (Or.inl ⟨by rfl, ?_⟩) ?_ ?_
    rotate_left
    · intro w'
      go_simp
      with_reducible rfl
    rotate_left
    · simp only [Act.put, List.setIfInBounds_toArray, List.set_cons_zero, List.set_cons_succ, i64_w, i32_w]
      rfl
    refine done_ (done_of HT_.out (by kernel_rfl)) ?_
    try clear hHeld
    go_wp2
    go_ret
    exact ⟨rfl, H.below⟩
  · skip
    have u1 : decide (0 ≤ k1) = false := decide_eq_false hu
    have st42 := trivial
    go_upto_region 21 with (first
      | (clear st35; go_at_call 29; (with_reducible refine (IntQ (H.row _ m0) 0 false iy.out hfit.out).mono ?_); rintro e w34 ⟨rfl, hb⟩; replace H := H.call hb; clear hb; clear kgy_0 zgy_0 kgy_1 zgy_1 kgh_0 zgh_0 kgh_1 zgh_1 kgl_0 zgl_0 kgl_1 zgl_1 kgx_0 zgx_0 kgx_1 zgx_1; have kgy_0 : w34.cell? ⟨gy, 0, none⟩ = some (.bool (ng y)) := H.cell m0 0; have zgy_0 := H.frozen (g := gy) m0 0; have kgy_1 : w34.cell? ⟨gy, 1, none⟩ = some (.slice A28 (ln y) c29) := H.cell m0 1; have zgy_1 := H.frozen (g := gy) m0 1; have kgh_0 : w34.cell? ⟨gh, 0, none⟩ = some (.bool (ng hi)) := H.cell m1 0; have zgh_0 := H.frozen (g := gh) m1 0; have kgh_1 : w34.cell? ⟨gh, 1, none⟩ = some (.slice A19 (ln hi) c20) := H.cell m1 1; have zgh_1 := H.frozen (g := gh) m1 1; have kgl_0 : w34.cell? ⟨gl, 0, none⟩ = some (.bool (ng lo)) := H.cell m2 0; have zgl_0 := H.frozen (g := gl) m2 0; have kgl_1 : w34.cell? ⟨gl, 1, none⟩ = some (.slice A15 (ln lo) c16) := H.cell m2 1; have zgl_1 := H.frozen (g := gl) m2 1; have kgx_0 : w34.cell? ⟨gx, 0, none⟩ = some (.bool (ng n)) := H.cell m3 0; have zgx_0 := H.frozen (g := gx) m3 0; have kgx_1 : w34.cell? ⟨gx, 1, none⟩ = some (.slice A4 (ln n) c5) := H.cell m3 1; have zgx_1 := H.frozen (g := gx) m3 1)
      | (clear st42; go_at_call 34; (with_reducible refine (CmpQ (H.row _ m0) (H.row _ m2) (lim bY.out (by decide)) (lim blo.out (by decide)) k1 c1.out).mono ?_); rintro e w41 ⟨rfl, hb⟩; replace H := H.call hb; clear hb; clear kgy_0 zgy_0 kgy_1 zgy_1 kgh_0 zgh_0 kgh_1 zgh_1 kgl_0 zgl_0 kgl_1 zgl_1 kgx_0 zgx_0 kgx_1 zgx_1; have kgy_0 : w41.cell? ⟨gy, 0, none⟩ = some (.bool (ng y)) := H.cell m0 0; have zgy_0 := H.frozen (g := gy) m0 0; have kgy_1 : w41.cell? ⟨gy, 1, none⟩ = some (.slice A28 (ln y) c29) := H.cell m0 1; have zgy_1 := H.frozen (g := gy) m0 1; have kgh_0 : w41.cell? ⟨gh, 0, none⟩ = some (.bool (ng hi)) := H.cell m1 0; have zgh_0 := H.frozen (g := gh) m1 0; have kgh_1 : w41.cell? ⟨gh, 1, none⟩ = some (.slice A19 (ln hi) c20) := H.cell m1 1; have zgh_1 := H.frozen (g := gh) m1 1; have kgl_0 : w41.cell? ⟨gl, 0, none⟩ = some (.bool (ng lo)) := H.cell m2 0; have zgl_0 := H.frozen (g := gl) m2 0; have kgl_1 : w41.cell? ⟨gl, 1, none⟩ = some (.slice A15 (ln lo) c16) := H.cell m2 1; have zgl_1 := H.frozen (g := gl) m2 1; have kgx_0 : w41.cell? ⟨gx, 0, none⟩ = some (.bool (ng n)) := H.cell m3 0; have zgx_0 := H.frozen (g := gx) m3 0; have kgx_1 : w41.cell? ⟨gx, 1, none⟩ = some (.slice A4 (ln n) c5) := H.cell m3 1; have zgx_1 := H.frozen (g := gx) m3 1))
    (try simp only [Act.put, List.setIfInBounds_toArray, List.set_cons_zero, List.set_cons_succ])
    clear kgy_0 zgy_0 kgy_1 zgy_1 kgh_0 zgh_0 kgh_1 zgh_1 kgl_0 zgl_0 kgl_1 zgl_1 kgx_0 zgx_0 kgx_1 zgx_1
    replace H := H.drew
    refine start_ (n := 17) (S := fun w' => True) (ds := []) #[false, false, false, false, false, false, false, false, false, false, false, false, false, false, false, false, false] (by kernel_rfl) rfl rfl trivial (fun hHeld => ?_)
    generalize w41.drew = w43 at H hHeld ⊢
    refine with_tabW tb14.tab21 tb14.bits21 (fun HT_ HW_ => ?_)
    refine pure_ (i := 0) (N := some 70) (v := ?_) (a' := ?_) #[true, false, false, false, false, false, false, false, false, false, false, false, false, false, false, false, false] rfl rfl (any_of HT_.out (by kernel_rfl)) (fun _ _ _ h => h) (Or.inl ⟨by rfl, ?_⟩) ?_ ?_
    rotate_left
    · intro w'
      go_simp
      with_reducible rfl
    rotate_left
    · simp only [Act.put, List.setIfInBounds_toArray, List.set_cons_zero, List.set_cons_succ, i64_w, i32_w]
      rfl
    refine pure_ (i := 1) (N := some 71) (v := ?_) (a' := ?_) #[true, true, false, false, false, false, false, false, false, false, false, false, false, false, false, false, false] rfl rfl (any_of HT_.out (by kernel_rfl)) (fun _ _ _ h => h) (Or.inl ⟨by rfl, ?_⟩) ?_ ?_
    rotate_left
    · intro w'
      go_simp
      with_reducible rfl
    rotate_left
    · simp only [Act.put, List.setIfInBounds_toArray, List.set_cons_zero, List.set_cons_succ, i64_w, i32_w]
      rfl
    refine pure_ (i := 2) (N := some 72) (v := ?_) (a' := ?_) #[true, true, true, false, false, false, false, false, false, false, false, false, false, false, false, false, false] rfl rfl (any_of HT_.out (by kernel_rfl)) (fun _ _ _ h => h) (Or.inl ⟨by rfl, ?_⟩) ?_ ?_
    rotate_left
    · intro w'
      go_simp
      with_reducible rfl
    rotate_left
    · simp only [Act.put, List.setIfInBounds_toArray, List.set_cons_zero, List.set_cons_succ, i64_w, i32_w]
      rfl
    refine pure_ (i := 3) (N := some 73) (v := ?_) (a' := ?_) #[true, true, true, true, false, false, false, false, false, false, false, false, false, false, false, false, false] rfl rfl (any_of HT_.out (by kernel_rfl)) (fun _ _ _ h => h) (Or.inl ⟨by rfl, ?_⟩) ?_ ?_
    rotate_left
    · intro w'
      go_simp
      with_reducible rfl
    rotate_left
    · simp only [Act.put, List.setIfInBounds_toArray, List.set_cons_zero, List.set_cons_succ, i64_w, i32_w]
      rfl
    refine pure_ (i := 4) (N := some 74) (v := ?_) (a' := ?_) #[true, true, true, true, true, false, false, false, false, false, false, false, false, false, false, false, false] rfl rfl (any_of HT_.out (by kernel_rfl)) (fun _ _ _ h => h) (Or.inl ⟨by rfl, ?_⟩) ?_ ?_
    rotate_left
    · intro w'
      go_simp
      with_reducible rfl
    rotate_left
    · simp only [Act.put, List.setIfInBounds_toArray, List.set_cons_zero, List.set_cons_succ, i64_w, i32_w]
      rfl
    refine pure_ (i := 5) (N := some 75) (v := ?_) (a' := ?_) #[true, true, true, true, true, true, false, false, false, false, false, false, false, false, false, false, false] rfl rfl (any_of HT_.out (by kernel_rfl)) (fun _ _ _ h => h) (Or.inl ⟨by rfl, ?_⟩) ?_ ?_
    rotate_left
    · intro w'
      go_simp
      with_reducible rfl
    rotate_left
    · simp only [Act.put, List.setIfInBounds_toArray, List.set_cons_zero, List.set_cons_succ, i64_w, i32_w]
      rfl
    refine pure_ (i := 6) (N := some 76) (v := ?_) (a' := ?_) #[true, true, true, true, true, true, true, false, false, false, false, false, false, false, false, false, false] rfl rfl (any_of HT_.out (by kernel_rfl)) (fun _ _ _ h => h) (Or.inl ⟨by rfl, ?_⟩) ?_ ?_
    rotate_left
    · intro w'
      go_simp
      with_reducible rfl
    rotate_left
    · simp only [Act.put, List.setIfInBounds_toArray, List.set_cons_zero, List.set_cons_succ, i64_w, i32_w]
      rfl
    refine pure_ (i := 7) (N := some 77) (v := undef) (a' := ?_) #[true, true, true, true, true, true, true, true, false, false, false, false, false, false, false, false, false] rfl rfl (any_of HT_.out (by kernel_rfl)) (fun _ _ _ h => h) (Or.inr ⟨by rfl, rfl⟩) ?_ ?_
    rotate_left
    · simp only [Act.put, List.setIfInBounds_toArray, List.set_cons_zero, List.set_cons_succ, i64_w, i32_w]
      rfl
    refine pure_ (i := 8) (N := some 78) (v := undef) (a' := ?_) #[true, true, true, true, true, true, true, true, true, false, false, false, false, false, false, false, false] rfl rfl (any_of HT_.out (by kernel_rfl)) (fun _ _ _ h => h) (Or.inr ⟨by rfl, rfl⟩) ?_ ?_
    rotate_left
    · simp only [Act.put, List.setIfInBounds_toArray, List.set_cons_zero, List.set_cons_succ, i64_w, i32_w]
      rfl
    refine pure_ (i := 9) (N := some 79) (v := undef) (a' := ?_) #[true, true, true, true, true, true, true, true, true, true, false, false, false, false, false, false, false] rfl rfl (any_of HT_.out (by kernel_rfl)) (fun _ _ _ h => h) (Or.inr ⟨by rfl, rfl⟩) ?_ ?_
    rotate_left
    · simp only [Act.put, List.setIfInBounds_toArray, List.set_cons_zero, List.set_cons_succ, i64_w, i32_w]
      rfl
    refine pure_ (i := 10) (N := some 80) (v := undef) (a' := ?_) #[true, true, true, true, true, true, true, true, true, true, true, false, false, false, false, false, false] rfl rfl (any_of HT_.out (by kernel_rfl)) (fun _ _ _ h => h) (Or.inr ⟨by rfl, rfl⟩) ?_ ?_
    rotate_left
    · simp only [Act.put, List.setIfInBounds_toArray, List.set_cons_zero, List.set_cons_succ, i64_w, i32_w]
      rfl
    refine pure_ (i := 11) (N := some 81) (v := undef) (a' := ?_) #[true, true, true, true, true, true, true, true, true, true, true, true, false, false, false, false, false] rfl rfl (any_of HT_.out (by kernel_rfl)) (fun _ _ _ h => h) (Or.inr ⟨by rfl, rfl⟩) ?_ ?_
    rotate_left
    · simp only [Act.put, List.setIfInBounds_toArray, List.set_cons_zero, List.set_cons_succ, i64_w, i32_w]
      rfl
    refine pure_ (i := 12) (N := some 82) (v := undef) (a' := ?_) #[true, true, true, true, true, true, true, true, true, true, true, true, true, false, false, false, false] rfl rfl (any_of HT_.out (by kernel_rfl)) (fun _ _ _ h => h) (Or.inr ⟨by rfl, rfl⟩) ?_ ?_
    rotate_left
    · simp only [Act.put, List.setIfInBounds_toArray, List.set_cons_zero, List.set_cons_succ, i64_w, i32_w]
      rfl
    refine pure_ (i := 13) (N := some 83) (v := undef) (a' := ?_) #[true, true, true, true, true, true, true, true, true, true, true, true, true, true, false, false, false] rfl rfl (any_of HT_.out (by kernel_rfl)) (fun _ _ _ h => h) (Or.inr ⟨by rfl, rfl⟩) ?_ ?_
    rotate_left
    · simp only [Act.put, List.setIfInBounds_toArray, List.set_cons_zero, List.set_cons_succ, i64_w, i32_w]
      rfl
    refine pure_ (i := 14) (N := some 84) (v := undef) (a' := ?_) #[true, true, true, true, true, true, true, true, true, true, true, true, true, true, true, false, false] rfl rfl (any_of HT_.out (by kernel_rfl)) (fun _ _ _ h => h) (Or.inr ⟨by rfl, rfl⟩) ?_ ?_
    rotate_left
    · simp only [Act.put, List.setIfInBounds_toArray, List.set_cons_zero, List.set_cons_succ, i64_w, i32_w]
      rfl
    refine pure_ (i := 15) (N := some 85) (v := ?_) (a' := ?_) #[true, true, true, true, true, true, true, true, true, true, true, true, true, true, true, true, false] rfl rfl (any_of HT_.out (by kernel_rfl)) (fun _ _ _ h => h) (Or.inl ⟨by rfl, ?_⟩) ?_ ?_
    rotate_left
    · intro w'
      go_simp
      with_reducible rfl
    rotate_left
    · simp only [Act.put, List.setIfInBounds_toArray, List.set_cons_zero, List.set_cons_succ, i64_w, i32_w]
      rfl
    refine pure_ (i := 16) (N := some 4) (v := ?_) (a' := ?_) #[true, true, true, true, true, true, true, true, true, true, true, true, true, true, true, true, true] rfl rfl (any_of HT_.out (by kernel_rfl)) (fun _ _ _ h => h) (Or.inl ⟨by rfl, ?_⟩) ?_ ?_
    rotate_left
    · intro w'
      go_simp
      with_reducible rfl
    rotate_left
    · simp only [Act.put, List.setIfInBounds_toArray, List.set_cons_zero, List.set_cons_succ, i64_w, i32_w]
      rfl
    refine done_ (done_of HT_.out (by kernel_rfl)) ?_
    try clear hHeld
    go_wp2
    go_ret
    exact ⟨rfl, H.below⟩

set_option maxHeartbeats 8000000 in
set_option maxRecDepth 100000 in
theorem ints_long_n (n : Int) (s : ByteArray) (w : World) (n0 : -9223372036854775808 ≤ n) (n1 : n ≤ 9223372036854775807) (hs : n < 0) (hsz : 80 < s.size) : Calls Try.prog 14 #[.int .i64 n, .string s] w (fun e W' => e = .returned (.bool true) ∧ Below w.heap.size w W') := by
  have d1 : decide (80 < (s.size : Int)) = true := decide_eq_true (by omega)
  have d2 : decide (80 < s.size) = true := decide_eq_true (by omega)
  have hu25 := Try.underlying25
  have H := Sit.start w (fun _ => False)
  have bn := Aside0.mk (bOf (r := n) (by omega))
  have i1 := Aside0.mk (show intOfI n = n from intOf_fit n0 n1)
  have f1 := Aside0.mk (show fitsI n = true from fits_fit n0 n1)
  have t1 : (n != n) = false := by simp
  have t2 : decide (0 < n) = false := decide_eq_false (by omega)
  have t3 : decide (n < 0) = true := decide_eq_true (by omega)
  have hsg := Aside0.mk (show sg n = (-1) from sg_neg hs)
  obtain ⟨lo, elo⟩ : ∃ v : Int, (-9223372036854775808 : Int) = v := ⟨_, rfl⟩
  obtain ⟨hi, ehi⟩ : ∃ v : Int, (9223372036854775807 : Int) = v := ⟨_, rfl⟩
  have hlo := Aside0.mk elo
  have hhi := Aside0.mk ehi
  have blo := Aside0.mk (bOf (r := lo) (by omega))
  have bhi := Aside0.mk (bOf (r := hi) (by omega))
  clear elo ehi hs
  go_enter Try.func14, Try.ntmps14
  have st2 := trivial
  have st6 := trivial
  have st8 := trivial
  go_upto_region 4 with (first
    | (clear st2; go_at_call 22; (with_reducible refine (awake_ok _).mono ?_); rintro e wA ⟨rfl, hb⟩; replace H := H.call hb; clear hb)
    | (clear st6; go_at_call 27; (with_reducible refine (OfQ _ n n rfl (by omega) (by omega)).mono ?_); rintro e w3 ⟨A4, c5, rfl, hr, hb⟩; replace H := H.got (fresh_row hr) hb; clear hr hb)
    | (clear st8; (with_reducible refine gate_dst (N := 5) rfl ?_); refine box_event ?hg (N := 5) ?hd (cs := #[.bool false, .slice none 0 0]) (t := 25) ?hr ?_; (case hd => rfl); (case hg => rfl); (case hr => first | (go_simp; done) | (go_simp; rfl)); intro gx hg w7 hbox hb; replace H := H.newbox hg hbox hb; clear hg hbox hb; have kgx_0 : w7.cell? ⟨gx, 0, none⟩ = some (.bool false) := H.cell m0 0; have zgx_0 := H.frozen (g := gx) m0 0; have kgx_1 : w7.cell? ⟨gx, 1, none⟩ = some (.slice none 0 0) := H.cell m0 1; have zgx_1 := H.frozen (g := gx) m0 1))
  (try simp only [Act.put, List.setIfInBounds_toArray, List.set_cons_zero, List.set_cons_succ])
  replace H := ((H.setn [] 0 (.bool (ng n)) rfl).setn [] 1 (.slice A4 (ln n) c5) rfl)
  clear kgx_0 zgx_0 kgx_1 zgx_1
  generalize ((w7.setCell ⟨gx, 0, none⟩ (.bool (ng n))).setCell ⟨gx, 1, none⟩ (.slice A4 (ln n) c5)) = w9 at H ⊢
  have kgx_0 : w9.cell? ⟨gx, 0, none⟩ = some (.bool (ng n)) := H.cell m0 0
  have zgx_0 := H.frozen (g := gx) m0 0
  have kgx_1 : w9.cell? ⟨gx, 1, none⟩ = some (.slice A4 (ln n) c5) := H.cell m0 1
  have zgx_1 := H.frozen (g := gx) m0 1
  have st11 := trivial
  have st13 := trivial
  have st17 := trivial
  have st21 := trivial
  have st23 := trivial
  have st25 := trivial
  go_upto_region 13 with (first
    | (clear st11; go_at_call 29; (with_reducible refine (IntQ (H.row _ m0) n true i1.out f1.out).mono ?_); rintro e w10 ⟨rfl, hb⟩; replace H := H.call hb; clear hb; clear kgx_0 zgx_0 kgx_1 zgx_1; have kgx_0 : w10.cell? ⟨gx, 0, none⟩ = some (.bool (ng n)) := H.cell m0 0; have zgx_0 := H.frozen (g := gx) m0 0; have kgx_1 : w10.cell? ⟨gx, 1, none⟩ = some (.slice A4 (ln n) c5) := H.cell m0 1; have zgx_1 := H.frozen (g := gx) m0 1)
    | (clear st13; go_at_call 25; (with_reducible refine (SignQ _ _ _ (lim bn.out (by decide)) (-1) hsg.out).mono ?_); rintro e w12 ⟨rfl, hb⟩; replace H := H.call hb; clear hb; clear kgx_0 zgx_0 kgx_1 zgx_1; have kgx_0 : w12.cell? ⟨gx, 0, none⟩ = some (.bool (ng n)) := H.cell m0 0; have zgx_0 := H.frozen (g := gx) m0 0; have kgx_1 : w12.cell? ⟨gx, 1, none⟩ = some (.slice A4 (ln n) c5) := H.cell m0 1; have zgx_1 := H.frozen (g := gx) m0 1)
    | (clear st17; go_at_call 27; (with_reducible refine (OfQ _ (-9223372036854775808) lo hlo.out (by omega) (by omega)).mono ?_); rintro e w14 ⟨A15, c16, rfl, hr, hb⟩; replace H := H.got (fresh_row hr) hb; clear hr hb; clear kgx_0 zgx_0 kgx_1 zgx_1; have kgx_0 : w14.cell? ⟨gx, 0, none⟩ = some (.bool (ng n)) := H.cell m0 0; have zgx_0 := H.frozen (g := gx) m0 0; have kgx_1 : w14.cell? ⟨gx, 1, none⟩ = some (.slice A4 (ln n) c5) := H.cell m0 1; have zgx_1 := H.frozen (g := gx) m0 1)
    | (clear st21; go_at_call 27; (with_reducible refine (OfQ _ 9223372036854775807 hi hhi.out (by omega) (by omega)).mono ?_); rintro e w18 ⟨A19, c20, rfl, hr, hb⟩; replace H := H.got (fresh_row hr) hb; clear hr hb; clear kgx_0 zgx_0 kgx_1 zgx_1; have kgx_0 : w18.cell? ⟨gx, 0, none⟩ = some (.bool (ng n)) := H.cell m0 0; have zgx_0 := H.frozen (g := gx) m0 0; have kgx_1 : w18.cell? ⟨gx, 1, none⟩ = some (.slice A4 (ln n) c5) := H.cell m0 1; have zgx_1 := H.frozen (g := gx) m0 1)
    | (clear st23; (with_reducible refine gate_dst (N := 9) rfl ?_); refine box_event ?hg (N := 9) ?hd (cs := #[.bool false, .slice none 0 0]) (t := 25) ?hr ?_; (case hd => rfl); (case hg => rfl); (case hr => first | (go_simp; done) | (go_simp; rfl)); intro gl hg w22 hbox hb; replace H := H.newbox hg hbox hb; clear hg hbox hb; clear kgx_0 zgx_0 kgx_1 zgx_1; have kgl_0 : w22.cell? ⟨gl, 0, none⟩ = some (.bool false) := H.cell m0 0; have zgl_0 := H.frozen (g := gl) m0 0; have kgl_1 : w22.cell? ⟨gl, 1, none⟩ = some (.slice none 0 0) := H.cell m0 1; have zgl_1 := H.frozen (g := gl) m0 1; have kgx_0 : w22.cell? ⟨gx, 0, none⟩ = some (.bool (ng n)) := H.cell m1 0; have zgx_0 := H.frozen (g := gx) m1 0; have kgx_1 : w22.cell? ⟨gx, 1, none⟩ = some (.slice A4 (ln n) c5) := H.cell m1 1; have zgx_1 := H.frozen (g := gx) m1 1; have ne_gl_gx := H.ne (g := gl) (g' := gx) 0 1 rfl rfl (by decide); have ne_gx_gl := ne_gl_gx.symm)
    | (clear st25; (with_reducible refine gate_dst (N := 10) rfl ?_); refine box_event ?hg (N := 10) ?hd (cs := #[.bool false, .slice none 0 0]) (t := 25) ?hr ?_; (case hd => rfl); (case hg => rfl); (case hr => first | (go_simp; done) | (go_simp; rfl)); intro gh hg w24 hbox hb; replace H := H.newbox hg hbox hb; clear hg hbox hb; clear kgl_0 zgl_0 kgl_1 zgl_1 kgx_0 zgx_0 kgx_1 zgx_1; have kgh_0 : w24.cell? ⟨gh, 0, none⟩ = some (.bool false) := H.cell m0 0; have zgh_0 := H.frozen (g := gh) m0 0; have kgh_1 : w24.cell? ⟨gh, 1, none⟩ = some (.slice none 0 0) := H.cell m0 1; have zgh_1 := H.frozen (g := gh) m0 1; have kgl_0 : w24.cell? ⟨gl, 0, none⟩ = some (.bool false) := H.cell m1 0; have zgl_0 := H.frozen (g := gl) m1 0; have kgl_1 : w24.cell? ⟨gl, 1, none⟩ = some (.slice none 0 0) := H.cell m1 1; have zgl_1 := H.frozen (g := gl) m1 1; have kgx_0 : w24.cell? ⟨gx, 0, none⟩ = some (.bool (ng n)) := H.cell m2 0; have zgx_0 := H.frozen (g := gx) m2 0; have kgx_1 : w24.cell? ⟨gx, 1, none⟩ = some (.slice A4 (ln n) c5) := H.cell m2 1; have zgx_1 := H.frozen (g := gx) m2 1; have ne_gh_gl := H.ne (g := gh) (g' := gl) 0 1 rfl rfl (by decide); have ne_gl_gh := ne_gh_gl.symm; have ne_gh_gx := H.ne (g := gh) (g' := gx) 0 2 rfl rfl (by decide); have ne_gx_gh := ne_gh_gx.symm))
  (try simp only [Act.put, List.setIfInBounds_toArray, List.set_cons_zero, List.set_cons_succ])
  replace H := ((((H.setn [_] 0 (.bool (ng lo)) rfl).setn [_] 1 (.slice A15 (ln lo) c16) rfl).setn [] 0 (.bool (ng hi)) rfl).setn [] 1 (.slice A19 (ln hi) c20) rfl)
  clear kgh_0 zgh_0 kgh_1 zgh_1 kgl_0 zgl_0 kgl_1 zgl_1 kgx_0 zgx_0 kgx_1 zgx_1
  generalize ((((w24.setCell ⟨gl, 0, none⟩ (.bool (ng lo))).setCell ⟨gl, 1, none⟩ (.slice A15 (ln lo) c16)).setCell ⟨gh, 0, none⟩ (.bool (ng hi))).setCell ⟨gh, 1, none⟩ (.slice A19 (ln hi) c20)) = w26 at H ⊢
  have kgh_0 : w26.cell? ⟨gh, 0, none⟩ = some (.bool (ng hi)) := H.cell m0 0
  have zgh_0 := H.frozen (g := gh) m0 0
  have kgh_1 : w26.cell? ⟨gh, 1, none⟩ = some (.slice A19 (ln hi) c20) := H.cell m0 1
  have zgh_1 := H.frozen (g := gh) m0 1
  have kgl_0 : w26.cell? ⟨gl, 0, none⟩ = some (.bool (ng lo)) := H.cell m1 0
  have zgl_0 := H.frozen (g := gl) m1 0
  have kgl_1 : w26.cell? ⟨gl, 1, none⟩ = some (.slice A15 (ln lo) c16) := H.cell m1 1
  have zgl_1 := H.frozen (g := gl) m1 1
  have kgx_0 : w26.cell? ⟨gx, 0, none⟩ = some (.bool (ng n)) := H.cell m2 0
  have zgx_0 := H.frozen (g := gx) m2 0
  have kgx_1 : w26.cell? ⟨gx, 1, none⟩ = some (.slice A4 (ln n) c5) := H.cell m2 1
  have zgx_1 := H.frozen (g := gx) m2 1
  go_wp2
  go_ret
  exact ⟨rfl, H.below⟩

set_option maxHeartbeats 8000000 in
set_option maxRecDepth 100000 in
theorem ints_err_n (n : Int) (s : ByteArray) (w : World) (n0 : -9223372036854775808 ≤ n) (n1 : n ≤ 9223372036854775807) (hs : n < 0) (hsz : s.size ≤ 80) (y e : Int) (hy : Aside0 (pr s = (y, e))) (he : (e != 0) = true) (he2 : (e == 0) = false) : Calls Try.prog 14 #[.int .i64 n, .string s] w (fun e W' => e = .returned (.bool true) ∧ Below w.heap.size w W') := by
  have d1 : decide (80 < (s.size : Int)) = false := decide_eq_false (by omega)
  have d2 : decide (80 < s.size) = false := decide_eq_false (by omega)
  have bY := Aside0.mk (pr_small hy.out hsz)
  have hu25 := Try.underlying25
  have H := Sit.start w (fun _ => False)
  have bn := Aside0.mk (bOf (r := n) (by omega))
  have i1 := Aside0.mk (show intOfI n = n from intOf_fit n0 n1)
  have f1 := Aside0.mk (show fitsI n = true from fits_fit n0 n1)
  have t1 : (n != n) = false := by simp
  have t2 : decide (0 < n) = false := decide_eq_false (by omega)
  have t3 : decide (n < 0) = true := decide_eq_true (by omega)
  have hsg := Aside0.mk (show sg n = (-1) from sg_neg hs)
  obtain ⟨lo, elo⟩ : ∃ v : Int, (-9223372036854775808 : Int) = v := ⟨_, rfl⟩
  obtain ⟨hi, ehi⟩ : ∃ v : Int, (9223372036854775807 : Int) = v := ⟨_, rfl⟩
  have hlo := Aside0.mk elo
  have hhi := Aside0.mk ehi
  have blo := Aside0.mk (bOf (r := lo) (by omega))
  have bhi := Aside0.mk (bOf (r := hi) (by omega))
  clear elo ehi hs
  go_enter Try.func14, Try.ntmps14
  have st2 := trivial
  have st6 := trivial
  have st8 := trivial
  go_upto_region 4 with (first
    | (clear st2; go_at_call 22; (with_reducible refine (awake_ok _).mono ?_); rintro e wA ⟨rfl, hb⟩; replace H := H.call hb; clear hb)
    | (clear st6; go_at_call 27; (with_reducible refine (OfQ _ n n rfl (by omega) (by omega)).mono ?_); rintro e w3 ⟨A4, c5, rfl, hr, hb⟩; replace H := H.got (fresh_row hr) hb; clear hr hb)
    | (clear st8; (with_reducible refine gate_dst (N := 5) rfl ?_); refine box_event ?hg (N := 5) ?hd (cs := #[.bool false, .slice none 0 0]) (t := 25) ?hr ?_; (case hd => rfl); (case hg => rfl); (case hr => first | (go_simp; done) | (go_simp; rfl)); intro gx hg w7 hbox hb; replace H := H.newbox hg hbox hb; clear hg hbox hb; have kgx_0 : w7.cell? ⟨gx, 0, none⟩ = some (.bool false) := H.cell m0 0; have zgx_0 := H.frozen (g := gx) m0 0; have kgx_1 : w7.cell? ⟨gx, 1, none⟩ = some (.slice none 0 0) := H.cell m0 1; have zgx_1 := H.frozen (g := gx) m0 1))
  (try simp only [Act.put, List.setIfInBounds_toArray, List.set_cons_zero, List.set_cons_succ])
  replace H := ((H.setn [] 0 (.bool (ng n)) rfl).setn [] 1 (.slice A4 (ln n) c5) rfl)
  clear kgx_0 zgx_0 kgx_1 zgx_1
  generalize ((w7.setCell ⟨gx, 0, none⟩ (.bool (ng n))).setCell ⟨gx, 1, none⟩ (.slice A4 (ln n) c5)) = w9 at H ⊢
  have kgx_0 : w9.cell? ⟨gx, 0, none⟩ = some (.bool (ng n)) := H.cell m0 0
  have zgx_0 := H.frozen (g := gx) m0 0
  have kgx_1 : w9.cell? ⟨gx, 1, none⟩ = some (.slice A4 (ln n) c5) := H.cell m0 1
  have zgx_1 := H.frozen (g := gx) m0 1
  have st11 := trivial
  have st13 := trivial
  have st17 := trivial
  have st21 := trivial
  have st23 := trivial
  have st25 := trivial
  go_upto_region 13 with (first
    | (clear st11; go_at_call 29; (with_reducible refine (IntQ (H.row _ m0) n true i1.out f1.out).mono ?_); rintro e w10 ⟨rfl, hb⟩; replace H := H.call hb; clear hb; clear kgx_0 zgx_0 kgx_1 zgx_1; have kgx_0 : w10.cell? ⟨gx, 0, none⟩ = some (.bool (ng n)) := H.cell m0 0; have zgx_0 := H.frozen (g := gx) m0 0; have kgx_1 : w10.cell? ⟨gx, 1, none⟩ = some (.slice A4 (ln n) c5) := H.cell m0 1; have zgx_1 := H.frozen (g := gx) m0 1)
    | (clear st13; go_at_call 25; (with_reducible refine (SignQ _ _ _ (lim bn.out (by decide)) (-1) hsg.out).mono ?_); rintro e w12 ⟨rfl, hb⟩; replace H := H.call hb; clear hb; clear kgx_0 zgx_0 kgx_1 zgx_1; have kgx_0 : w12.cell? ⟨gx, 0, none⟩ = some (.bool (ng n)) := H.cell m0 0; have zgx_0 := H.frozen (g := gx) m0 0; have kgx_1 : w12.cell? ⟨gx, 1, none⟩ = some (.slice A4 (ln n) c5) := H.cell m0 1; have zgx_1 := H.frozen (g := gx) m0 1)
    | (clear st17; go_at_call 27; (with_reducible refine (OfQ _ (-9223372036854775808) lo hlo.out (by omega) (by omega)).mono ?_); rintro e w14 ⟨A15, c16, rfl, hr, hb⟩; replace H := H.got (fresh_row hr) hb; clear hr hb; clear kgx_0 zgx_0 kgx_1 zgx_1; have kgx_0 : w14.cell? ⟨gx, 0, none⟩ = some (.bool (ng n)) := H.cell m0 0; have zgx_0 := H.frozen (g := gx) m0 0; have kgx_1 : w14.cell? ⟨gx, 1, none⟩ = some (.slice A4 (ln n) c5) := H.cell m0 1; have zgx_1 := H.frozen (g := gx) m0 1)
    | (clear st21; go_at_call 27; (with_reducible refine (OfQ _ 9223372036854775807 hi hhi.out (by omega) (by omega)).mono ?_); rintro e w18 ⟨A19, c20, rfl, hr, hb⟩; replace H := H.got (fresh_row hr) hb; clear hr hb; clear kgx_0 zgx_0 kgx_1 zgx_1; have kgx_0 : w18.cell? ⟨gx, 0, none⟩ = some (.bool (ng n)) := H.cell m0 0; have zgx_0 := H.frozen (g := gx) m0 0; have kgx_1 : w18.cell? ⟨gx, 1, none⟩ = some (.slice A4 (ln n) c5) := H.cell m0 1; have zgx_1 := H.frozen (g := gx) m0 1)
    | (clear st23; (with_reducible refine gate_dst (N := 9) rfl ?_); refine box_event ?hg (N := 9) ?hd (cs := #[.bool false, .slice none 0 0]) (t := 25) ?hr ?_; (case hd => rfl); (case hg => rfl); (case hr => first | (go_simp; done) | (go_simp; rfl)); intro gl hg w22 hbox hb; replace H := H.newbox hg hbox hb; clear hg hbox hb; clear kgx_0 zgx_0 kgx_1 zgx_1; have kgl_0 : w22.cell? ⟨gl, 0, none⟩ = some (.bool false) := H.cell m0 0; have zgl_0 := H.frozen (g := gl) m0 0; have kgl_1 : w22.cell? ⟨gl, 1, none⟩ = some (.slice none 0 0) := H.cell m0 1; have zgl_1 := H.frozen (g := gl) m0 1; have kgx_0 : w22.cell? ⟨gx, 0, none⟩ = some (.bool (ng n)) := H.cell m1 0; have zgx_0 := H.frozen (g := gx) m1 0; have kgx_1 : w22.cell? ⟨gx, 1, none⟩ = some (.slice A4 (ln n) c5) := H.cell m1 1; have zgx_1 := H.frozen (g := gx) m1 1; have ne_gl_gx := H.ne (g := gl) (g' := gx) 0 1 rfl rfl (by decide); have ne_gx_gl := ne_gl_gx.symm)
    | (clear st25; (with_reducible refine gate_dst (N := 10) rfl ?_); refine box_event ?hg (N := 10) ?hd (cs := #[.bool false, .slice none 0 0]) (t := 25) ?hr ?_; (case hd => rfl); (case hg => rfl); (case hr => first | (go_simp; done) | (go_simp; rfl)); intro gh hg w24 hbox hb; replace H := H.newbox hg hbox hb; clear hg hbox hb; clear kgl_0 zgl_0 kgl_1 zgl_1 kgx_0 zgx_0 kgx_1 zgx_1; have kgh_0 : w24.cell? ⟨gh, 0, none⟩ = some (.bool false) := H.cell m0 0; have zgh_0 := H.frozen (g := gh) m0 0; have kgh_1 : w24.cell? ⟨gh, 1, none⟩ = some (.slice none 0 0) := H.cell m0 1; have zgh_1 := H.frozen (g := gh) m0 1; have kgl_0 : w24.cell? ⟨gl, 0, none⟩ = some (.bool false) := H.cell m1 0; have zgl_0 := H.frozen (g := gl) m1 0; have kgl_1 : w24.cell? ⟨gl, 1, none⟩ = some (.slice none 0 0) := H.cell m1 1; have zgl_1 := H.frozen (g := gl) m1 1; have kgx_0 : w24.cell? ⟨gx, 0, none⟩ = some (.bool (ng n)) := H.cell m2 0; have zgx_0 := H.frozen (g := gx) m2 0; have kgx_1 : w24.cell? ⟨gx, 1, none⟩ = some (.slice A4 (ln n) c5) := H.cell m2 1; have zgx_1 := H.frozen (g := gx) m2 1; have ne_gh_gl := H.ne (g := gh) (g' := gl) 0 1 rfl rfl (by decide); have ne_gl_gh := ne_gh_gl.symm; have ne_gh_gx := H.ne (g := gh) (g' := gx) 0 2 rfl rfl (by decide); have ne_gx_gh := ne_gh_gx.symm))
  (try simp only [Act.put, List.setIfInBounds_toArray, List.set_cons_zero, List.set_cons_succ])
  replace H := ((((H.setn [_] 0 (.bool (ng lo)) rfl).setn [_] 1 (.slice A15 (ln lo) c16) rfl).setn [] 0 (.bool (ng hi)) rfl).setn [] 1 (.slice A19 (ln hi) c20) rfl)
  clear kgh_0 zgh_0 kgh_1 zgh_1 kgl_0 zgl_0 kgl_1 zgl_1 kgx_0 zgx_0 kgx_1 zgx_1
  generalize ((((w24.setCell ⟨gl, 0, none⟩ (.bool (ng lo))).setCell ⟨gl, 1, none⟩ (.slice A15 (ln lo) c16)).setCell ⟨gh, 0, none⟩ (.bool (ng hi))).setCell ⟨gh, 1, none⟩ (.slice A19 (ln hi) c20)) = w26 at H ⊢
  have kgh_0 : w26.cell? ⟨gh, 0, none⟩ = some (.bool (ng hi)) := H.cell m0 0
  have zgh_0 := H.frozen (g := gh) m0 0
  have kgh_1 : w26.cell? ⟨gh, 1, none⟩ = some (.slice A19 (ln hi) c20) := H.cell m0 1
  have zgh_1 := H.frozen (g := gh) m0 1
  have kgl_0 : w26.cell? ⟨gl, 0, none⟩ = some (.bool (ng lo)) := H.cell m1 0
  have zgl_0 := H.frozen (g := gl) m1 0
  have kgl_1 : w26.cell? ⟨gl, 1, none⟩ = some (.slice A15 (ln lo) c16) := H.cell m1 1
  have zgl_1 := H.frozen (g := gl) m1 1
  have kgx_0 : w26.cell? ⟨gx, 0, none⟩ = some (.bool (ng n)) := H.cell m2 0
  have zgx_0 := H.frozen (g := gx) m2 0
  have kgx_1 : w26.cell? ⟨gx, 1, none⟩ = some (.slice A4 (ln n) c5) := H.cell m2 1
  have zgx_1 := H.frozen (g := gx) m2 1
  have st30 := trivial
  have st32 := trivial
  go_upto_region 16 with (first
    | (clear st30; go_at_call 23; (with_reducible refine (ParseQ s _ y e hy.out).mono ?_); rintro e w27 ⟨A28, c29, rfl, hr, hb⟩; replace H := H.got (fresh_row hr) hb; clear hr hb; clear kgh_0 zgh_0 kgh_1 zgh_1 kgl_0 zgl_0 kgl_1 zgl_1 kgx_0 zgx_0 kgx_1 zgx_1; have kgh_0 : w27.cell? ⟨gh, 0, none⟩ = some (.bool (ng hi)) := H.cell m0 0; have zgh_0 := H.frozen (g := gh) m0 0; have kgh_1 : w27.cell? ⟨gh, 1, none⟩ = some (.slice A19 (ln hi) c20) := H.cell m0 1; have zgh_1 := H.frozen (g := gh) m0 1; have kgl_0 : w27.cell? ⟨gl, 0, none⟩ = some (.bool (ng lo)) := H.cell m1 0; have zgl_0 := H.frozen (g := gl) m1 0; have kgl_1 : w27.cell? ⟨gl, 1, none⟩ = some (.slice A15 (ln lo) c16) := H.cell m1 1; have zgl_1 := H.frozen (g := gl) m1 1; have kgx_0 : w27.cell? ⟨gx, 0, none⟩ = some (.bool (ng n)) := H.cell m2 0; have zgx_0 := H.frozen (g := gx) m2 0; have kgx_1 : w27.cell? ⟨gx, 1, none⟩ = some (.slice A4 (ln n) c5) := H.cell m2 1; have zgx_1 := H.frozen (g := gx) m2 1)
    | (clear st32; (with_reducible refine gate_dst (N := 11) rfl ?_); refine box_event ?hg (N := 11) ?hd (cs := #[.bool false, .slice none 0 0]) (t := 25) ?hr ?_; (case hd => rfl); (case hg => rfl); (case hr => first | (go_simp; done) | (go_simp; rfl)); intro gy hg w31 hbox hb; replace H := H.newbox hg hbox hb; clear hg hbox hb; clear kgh_0 zgh_0 kgh_1 zgh_1 kgl_0 zgl_0 kgl_1 zgl_1 kgx_0 zgx_0 kgx_1 zgx_1; have kgy_0 : w31.cell? ⟨gy, 0, none⟩ = some (.bool false) := H.cell m0 0; have zgy_0 := H.frozen (g := gy) m0 0; have kgy_1 : w31.cell? ⟨gy, 1, none⟩ = some (.slice none 0 0) := H.cell m0 1; have zgy_1 := H.frozen (g := gy) m0 1; have kgh_0 : w31.cell? ⟨gh, 0, none⟩ = some (.bool (ng hi)) := H.cell m1 0; have zgh_0 := H.frozen (g := gh) m1 0; have kgh_1 : w31.cell? ⟨gh, 1, none⟩ = some (.slice A19 (ln hi) c20) := H.cell m1 1; have zgh_1 := H.frozen (g := gh) m1 1; have kgl_0 : w31.cell? ⟨gl, 0, none⟩ = some (.bool (ng lo)) := H.cell m2 0; have zgl_0 := H.frozen (g := gl) m2 0; have kgl_1 : w31.cell? ⟨gl, 1, none⟩ = some (.slice A15 (ln lo) c16) := H.cell m2 1; have zgl_1 := H.frozen (g := gl) m2 1; have kgx_0 : w31.cell? ⟨gx, 0, none⟩ = some (.bool (ng n)) := H.cell m3 0; have zgx_0 := H.frozen (g := gx) m3 0; have kgx_1 : w31.cell? ⟨gx, 1, none⟩ = some (.slice A4 (ln n) c5) := H.cell m3 1; have zgx_1 := H.frozen (g := gx) m3 1; have ne_gy_gh := H.ne (g := gy) (g' := gh) 0 1 rfl rfl (by decide); have ne_gh_gy := ne_gy_gh.symm; have ne_gy_gl := H.ne (g := gy) (g' := gl) 0 2 rfl rfl (by decide); have ne_gl_gy := ne_gy_gl.symm; have ne_gy_gx := H.ne (g := gy) (g' := gx) 0 3 rfl rfl (by decide); have ne_gx_gy := ne_gy_gx.symm))
  (try simp only [Act.put, List.setIfInBounds_toArray, List.set_cons_zero, List.set_cons_succ])
  replace H := ((H.setn [] 0 (.bool (ng y)) rfl).setn [] 1 (.slice A28 (ln y) c29) rfl)
  clear kgy_0 zgy_0 kgy_1 zgy_1 kgh_0 zgh_0 kgh_1 zgh_1 kgl_0 zgl_0 kgl_1 zgl_1 kgx_0 zgx_0 kgx_1 zgx_1
  generalize ((w31.setCell ⟨gy, 0, none⟩ (.bool (ng y))).setCell ⟨gy, 1, none⟩ (.slice A28 (ln y) c29)) = w33 at H ⊢
  have kgy_0 : w33.cell? ⟨gy, 0, none⟩ = some (.bool (ng y)) := H.cell m0 0
  have zgy_0 := H.frozen (g := gy) m0 0
  have kgy_1 : w33.cell? ⟨gy, 1, none⟩ = some (.slice A28 (ln y) c29) := H.cell m0 1
  have zgy_1 := H.frozen (g := gy) m0 1
  have kgh_0 : w33.cell? ⟨gh, 0, none⟩ = some (.bool (ng hi)) := H.cell m1 0
  have zgh_0 := H.frozen (g := gh) m1 0
  have kgh_1 : w33.cell? ⟨gh, 1, none⟩ = some (.slice A19 (ln hi) c20) := H.cell m1 1
  have zgh_1 := H.frozen (g := gh) m1 1
  have kgl_0 : w33.cell? ⟨gl, 0, none⟩ = some (.bool (ng lo)) := H.cell m2 0
  have zgl_0 := H.frozen (g := gl) m2 0
  have kgl_1 : w33.cell? ⟨gl, 1, none⟩ = some (.slice A15 (ln lo) c16) := H.cell m2 1
  have zgl_1 := H.frozen (g := gl) m2 1
  have kgx_0 : w33.cell? ⟨gx, 0, none⟩ = some (.bool (ng n)) := H.cell m3 0
  have zgx_0 := H.frozen (g := gx) m3 0
  have kgx_1 : w33.cell? ⟨gx, 1, none⟩ = some (.slice A4 (ln n) c5) := H.cell m3 1
  have zgx_1 := H.frozen (g := gx) m3 1
  go_wp2
  go_ret
  exact ⟨rfl, H.below⟩


set_option maxHeartbeats 8000000 in
set_option maxRecDepth 100000 in
theorem ints_fit_n (n : Int) (s : ByteArray) (w : World) (n0 : -9223372036854775808 ≤ n) (n1 : n ≤ 9223372036854775807) (hs : n < 0) (hsz : s.size ≤ 80) (y : Int) (hy : Aside0 (pr s = (y, 0))) (hF : fitsI y = true) : Calls Try.prog 14 #[.int .i64 n, .string s] w (fun e W' => e = .returned (.bool true) ∧ Below w.heap.size w W') := by
  have d1 : decide (80 < (s.size : Int)) = false := decide_eq_false (by omega)
  have d2 : decide (80 < s.size) = false := decide_eq_false (by omega)
  have bY := Aside0.mk (pr_small hy.out hsz)
  obtain ⟨k1, ek1⟩ : ∃ v, cmp3 y (-9223372036854775808) = v := ⟨_, rfl⟩
  obtain ⟨k2, ek2⟩ : ∃ v, cmp3 y 9223372036854775807 = v := ⟨_, rfl⟩
  have hf := fits_iff y
  rw [ek1, ek2] at hf
  have hk1 := Aside0.mk ek1
  have hk2 := Aside0.mk ek2
  clear ek1 ek2
  have hfit := Aside0.mk hF
  rw [hF] at hf
  simp only [ge_iff_le, Bool.and_eq_true, decide_eq_true_eq, Bool.true_eq] at hf
  have u1 : decide (0 ≤ k1) = true := decide_eq_true hf.1
  have u2 : decide (k2 ≤ 0) = true := decide_eq_true hf.2
  have ry := of_decide_eq_true hF
  have iy := Aside0.mk (show intOfI y = y from intOf_fit ry.1 ry.2)
  obtain ⟨y2, ey2⟩ : ∃ v : Int, y = v := ⟨_, rfl⟩
  have hy2 := Aside0.mk ey2
  have by2 := Aside0.mk (show ln y2 ≤ 10 by rw [← ey2]; exact bY.out)
  have hc := Aside0.mk (show cmp3 y2 y = 0 from cmp3_eq ey2.symm)
  clear ey2
  obtain ⟨ry1, ry2⟩ := ry
  clear hf hF
  have hu25 := Try.underlying25
  have H := Sit.start w (fun _ => False)
  have bn := Aside0.mk (bOf (r := n) (by omega))
  have i1 := Aside0.mk (show intOfI n = n from intOf_fit n0 n1)
  have f1 := Aside0.mk (show fitsI n = true from fits_fit n0 n1)
  have t1 : (n != n) = false := by simp
  have t2 : decide (0 < n) = false := decide_eq_false (by omega)
  have t3 : decide (n < 0) = true := decide_eq_true (by omega)
  have hsg := Aside0.mk (show sg n = (-1) from sg_neg hs)
  obtain ⟨lo, elo⟩ : ∃ v : Int, (-9223372036854775808 : Int) = v := ⟨_, rfl⟩
  obtain ⟨hi, ehi⟩ : ∃ v : Int, (9223372036854775807 : Int) = v := ⟨_, rfl⟩
  have hlo := Aside0.mk elo
  have hhi := Aside0.mk ehi
  have blo := Aside0.mk (bOf (r := lo) (by omega))
  have bhi := Aside0.mk (bOf (r := hi) (by omega))
  clear elo ehi hs
  go_enter Try.func14, Try.ntmps14
  have st2 := trivial
  have st6 := trivial
  have st8 := trivial
  go_upto_region 4 with (first
    | (clear st2; go_at_call 22; (with_reducible refine (awake_ok _).mono ?_); rintro e wA ⟨rfl, hb⟩; replace H := H.call hb; clear hb)
    | (clear st6; go_at_call 27; (with_reducible refine (OfQ _ n n rfl (by omega) (by omega)).mono ?_); rintro e w3 ⟨A4, c5, rfl, hr, hb⟩; replace H := H.got (fresh_row hr) hb; clear hr hb)
    | (clear st8; (with_reducible refine gate_dst (N := 5) rfl ?_); refine box_event ?hg (N := 5) ?hd (cs := #[.bool false, .slice none 0 0]) (t := 25) ?hr ?_; (case hd => rfl); (case hg => rfl); (case hr => first | (go_simp; done) | (go_simp; rfl)); intro gx hg w7 hbox hb; replace H := H.newbox hg hbox hb; clear hg hbox hb; have kgx_0 : w7.cell? ⟨gx, 0, none⟩ = some (.bool false) := H.cell m0 0; have zgx_0 := H.frozen (g := gx) m0 0; have kgx_1 : w7.cell? ⟨gx, 1, none⟩ = some (.slice none 0 0) := H.cell m0 1; have zgx_1 := H.frozen (g := gx) m0 1))
  (try simp only [Act.put, List.setIfInBounds_toArray, List.set_cons_zero, List.set_cons_succ])
  replace H := ((H.setn [] 0 (.bool (ng n)) rfl).setn [] 1 (.slice A4 (ln n) c5) rfl)
  clear kgx_0 zgx_0 kgx_1 zgx_1
  generalize ((w7.setCell ⟨gx, 0, none⟩ (.bool (ng n))).setCell ⟨gx, 1, none⟩ (.slice A4 (ln n) c5)) = w9 at H ⊢
  have kgx_0 : w9.cell? ⟨gx, 0, none⟩ = some (.bool (ng n)) := H.cell m0 0
  have zgx_0 := H.frozen (g := gx) m0 0
  have kgx_1 : w9.cell? ⟨gx, 1, none⟩ = some (.slice A4 (ln n) c5) := H.cell m0 1
  have zgx_1 := H.frozen (g := gx) m0 1
  have st11 := trivial
  have st13 := trivial
  have st17 := trivial
  have st21 := trivial
  have st23 := trivial
  have st25 := trivial
  go_upto_region 13 with (first
    | (clear st11; go_at_call 29; (with_reducible refine (IntQ (H.row _ m0) n true i1.out f1.out).mono ?_); rintro e w10 ⟨rfl, hb⟩; replace H := H.call hb; clear hb; clear kgx_0 zgx_0 kgx_1 zgx_1; have kgx_0 : w10.cell? ⟨gx, 0, none⟩ = some (.bool (ng n)) := H.cell m0 0; have zgx_0 := H.frozen (g := gx) m0 0; have kgx_1 : w10.cell? ⟨gx, 1, none⟩ = some (.slice A4 (ln n) c5) := H.cell m0 1; have zgx_1 := H.frozen (g := gx) m0 1)
    | (clear st13; go_at_call 25; (with_reducible refine (SignQ _ _ _ (lim bn.out (by decide)) (-1) hsg.out).mono ?_); rintro e w12 ⟨rfl, hb⟩; replace H := H.call hb; clear hb; clear kgx_0 zgx_0 kgx_1 zgx_1; have kgx_0 : w12.cell? ⟨gx, 0, none⟩ = some (.bool (ng n)) := H.cell m0 0; have zgx_0 := H.frozen (g := gx) m0 0; have kgx_1 : w12.cell? ⟨gx, 1, none⟩ = some (.slice A4 (ln n) c5) := H.cell m0 1; have zgx_1 := H.frozen (g := gx) m0 1)
    | (clear st17; go_at_call 27; (with_reducible refine (OfQ _ (-9223372036854775808) lo hlo.out (by omega) (by omega)).mono ?_); rintro e w14 ⟨A15, c16, rfl, hr, hb⟩; replace H := H.got (fresh_row hr) hb; clear hr hb; clear kgx_0 zgx_0 kgx_1 zgx_1; have kgx_0 : w14.cell? ⟨gx, 0, none⟩ = some (.bool (ng n)) := H.cell m0 0; have zgx_0 := H.frozen (g := gx) m0 0; have kgx_1 : w14.cell? ⟨gx, 1, none⟩ = some (.slice A4 (ln n) c5) := H.cell m0 1; have zgx_1 := H.frozen (g := gx) m0 1)
    | (clear st21; go_at_call 27; (with_reducible refine (OfQ _ 9223372036854775807 hi hhi.out (by omega) (by omega)).mono ?_); rintro e w18 ⟨A19, c20, rfl, hr, hb⟩; replace H := H.got (fresh_row hr) hb; clear hr hb; clear kgx_0 zgx_0 kgx_1 zgx_1; have kgx_0 : w18.cell? ⟨gx, 0, none⟩ = some (.bool (ng n)) := H.cell m0 0; have zgx_0 := H.frozen (g := gx) m0 0; have kgx_1 : w18.cell? ⟨gx, 1, none⟩ = some (.slice A4 (ln n) c5) := H.cell m0 1; have zgx_1 := H.frozen (g := gx) m0 1)
    | (clear st23; (with_reducible refine gate_dst (N := 9) rfl ?_); refine box_event ?hg (N := 9) ?hd (cs := #[.bool false, .slice none 0 0]) (t := 25) ?hr ?_; (case hd => rfl); (case hg => rfl); (case hr => first | (go_simp; done) | (go_simp; rfl)); intro gl hg w22 hbox hb; replace H := H.newbox hg hbox hb; clear hg hbox hb; clear kgx_0 zgx_0 kgx_1 zgx_1; have kgl_0 : w22.cell? ⟨gl, 0, none⟩ = some (.bool false) := H.cell m0 0; have zgl_0 := H.frozen (g := gl) m0 0; have kgl_1 : w22.cell? ⟨gl, 1, none⟩ = some (.slice none 0 0) := H.cell m0 1; have zgl_1 := H.frozen (g := gl) m0 1; have kgx_0 : w22.cell? ⟨gx, 0, none⟩ = some (.bool (ng n)) := H.cell m1 0; have zgx_0 := H.frozen (g := gx) m1 0; have kgx_1 : w22.cell? ⟨gx, 1, none⟩ = some (.slice A4 (ln n) c5) := H.cell m1 1; have zgx_1 := H.frozen (g := gx) m1 1; have ne_gl_gx := H.ne (g := gl) (g' := gx) 0 1 rfl rfl (by decide); have ne_gx_gl := ne_gl_gx.symm)
    | (clear st25; (with_reducible refine gate_dst (N := 10) rfl ?_); refine box_event ?hg (N := 10) ?hd (cs := #[.bool false, .slice none 0 0]) (t := 25) ?hr ?_; (case hd => rfl); (case hg => rfl); (case hr => first | (go_simp; done) | (go_simp; rfl)); intro gh hg w24 hbox hb; replace H := H.newbox hg hbox hb; clear hg hbox hb; clear kgl_0 zgl_0 kgl_1 zgl_1 kgx_0 zgx_0 kgx_1 zgx_1; have kgh_0 : w24.cell? ⟨gh, 0, none⟩ = some (.bool false) := H.cell m0 0; have zgh_0 := H.frozen (g := gh) m0 0; have kgh_1 : w24.cell? ⟨gh, 1, none⟩ = some (.slice none 0 0) := H.cell m0 1; have zgh_1 := H.frozen (g := gh) m0 1; have kgl_0 : w24.cell? ⟨gl, 0, none⟩ = some (.bool false) := H.cell m1 0; have zgl_0 := H.frozen (g := gl) m1 0; have kgl_1 : w24.cell? ⟨gl, 1, none⟩ = some (.slice none 0 0) := H.cell m1 1; have zgl_1 := H.frozen (g := gl) m1 1; have kgx_0 : w24.cell? ⟨gx, 0, none⟩ = some (.bool (ng n)) := H.cell m2 0; have zgx_0 := H.frozen (g := gx) m2 0; have kgx_1 : w24.cell? ⟨gx, 1, none⟩ = some (.slice A4 (ln n) c5) := H.cell m2 1; have zgx_1 := H.frozen (g := gx) m2 1; have ne_gh_gl := H.ne (g := gh) (g' := gl) 0 1 rfl rfl (by decide); have ne_gl_gh := ne_gh_gl.symm; have ne_gh_gx := H.ne (g := gh) (g' := gx) 0 2 rfl rfl (by decide); have ne_gx_gh := ne_gh_gx.symm))
  (try simp only [Act.put, List.setIfInBounds_toArray, List.set_cons_zero, List.set_cons_succ])
  replace H := ((((H.setn [_] 0 (.bool (ng lo)) rfl).setn [_] 1 (.slice A15 (ln lo) c16) rfl).setn [] 0 (.bool (ng hi)) rfl).setn [] 1 (.slice A19 (ln hi) c20) rfl)
  clear kgh_0 zgh_0 kgh_1 zgh_1 kgl_0 zgl_0 kgl_1 zgl_1 kgx_0 zgx_0 kgx_1 zgx_1
  generalize ((((w24.setCell ⟨gl, 0, none⟩ (.bool (ng lo))).setCell ⟨gl, 1, none⟩ (.slice A15 (ln lo) c16)).setCell ⟨gh, 0, none⟩ (.bool (ng hi))).setCell ⟨gh, 1, none⟩ (.slice A19 (ln hi) c20)) = w26 at H ⊢
  have kgh_0 : w26.cell? ⟨gh, 0, none⟩ = some (.bool (ng hi)) := H.cell m0 0
  have zgh_0 := H.frozen (g := gh) m0 0
  have kgh_1 : w26.cell? ⟨gh, 1, none⟩ = some (.slice A19 (ln hi) c20) := H.cell m0 1
  have zgh_1 := H.frozen (g := gh) m0 1
  have kgl_0 : w26.cell? ⟨gl, 0, none⟩ = some (.bool (ng lo)) := H.cell m1 0
  have zgl_0 := H.frozen (g := gl) m1 0
  have kgl_1 : w26.cell? ⟨gl, 1, none⟩ = some (.slice A15 (ln lo) c16) := H.cell m1 1
  have zgl_1 := H.frozen (g := gl) m1 1
  have kgx_0 : w26.cell? ⟨gx, 0, none⟩ = some (.bool (ng n)) := H.cell m2 0
  have zgx_0 := H.frozen (g := gx) m2 0
  have kgx_1 : w26.cell? ⟨gx, 1, none⟩ = some (.slice A4 (ln n) c5) := H.cell m2 1
  have zgx_1 := H.frozen (g := gx) m2 1
  have st30 := trivial
  have st32 := trivial
  go_upto_region 16 with (first
    | (clear st30; go_at_call 23; (with_reducible refine (ParseQ s _ y 0 hy.out).mono ?_); rintro e w27 ⟨A28, c29, rfl, hr, hb⟩; replace H := H.got (fresh_row hr) hb; clear hr hb; clear kgh_0 zgh_0 kgh_1 zgh_1 kgl_0 zgl_0 kgl_1 zgl_1 kgx_0 zgx_0 kgx_1 zgx_1; have kgh_0 : w27.cell? ⟨gh, 0, none⟩ = some (.bool (ng hi)) := H.cell m0 0; have zgh_0 := H.frozen (g := gh) m0 0; have kgh_1 : w27.cell? ⟨gh, 1, none⟩ = some (.slice A19 (ln hi) c20) := H.cell m0 1; have zgh_1 := H.frozen (g := gh) m0 1; have kgl_0 : w27.cell? ⟨gl, 0, none⟩ = some (.bool (ng lo)) := H.cell m1 0; have zgl_0 := H.frozen (g := gl) m1 0; have kgl_1 : w27.cell? ⟨gl, 1, none⟩ = some (.slice A15 (ln lo) c16) := H.cell m1 1; have zgl_1 := H.frozen (g := gl) m1 1; have kgx_0 : w27.cell? ⟨gx, 0, none⟩ = some (.bool (ng n)) := H.cell m2 0; have zgx_0 := H.frozen (g := gx) m2 0; have kgx_1 : w27.cell? ⟨gx, 1, none⟩ = some (.slice A4 (ln n) c5) := H.cell m2 1; have zgx_1 := H.frozen (g := gx) m2 1)
    | (clear st32; (with_reducible refine gate_dst (N := 11) rfl ?_); refine box_event ?hg (N := 11) ?hd (cs := #[.bool false, .slice none 0 0]) (t := 25) ?hr ?_; (case hd => rfl); (case hg => rfl); (case hr => first | (go_simp; done) | (go_simp; rfl)); intro gy hg w31 hbox hb; replace H := H.newbox hg hbox hb; clear hg hbox hb; clear kgh_0 zgh_0 kgh_1 zgh_1 kgl_0 zgl_0 kgl_1 zgl_1 kgx_0 zgx_0 kgx_1 zgx_1; have kgy_0 : w31.cell? ⟨gy, 0, none⟩ = some (.bool false) := H.cell m0 0; have zgy_0 := H.frozen (g := gy) m0 0; have kgy_1 : w31.cell? ⟨gy, 1, none⟩ = some (.slice none 0 0) := H.cell m0 1; have zgy_1 := H.frozen (g := gy) m0 1; have kgh_0 : w31.cell? ⟨gh, 0, none⟩ = some (.bool (ng hi)) := H.cell m1 0; have zgh_0 := H.frozen (g := gh) m1 0; have kgh_1 : w31.cell? ⟨gh, 1, none⟩ = some (.slice A19 (ln hi) c20) := H.cell m1 1; have zgh_1 := H.frozen (g := gh) m1 1; have kgl_0 : w31.cell? ⟨gl, 0, none⟩ = some (.bool (ng lo)) := H.cell m2 0; have zgl_0 := H.frozen (g := gl) m2 0; have kgl_1 : w31.cell? ⟨gl, 1, none⟩ = some (.slice A15 (ln lo) c16) := H.cell m2 1; have zgl_1 := H.frozen (g := gl) m2 1; have kgx_0 : w31.cell? ⟨gx, 0, none⟩ = some (.bool (ng n)) := H.cell m3 0; have zgx_0 := H.frozen (g := gx) m3 0; have kgx_1 : w31.cell? ⟨gx, 1, none⟩ = some (.slice A4 (ln n) c5) := H.cell m3 1; have zgx_1 := H.frozen (g := gx) m3 1; have ne_gy_gh := H.ne (g := gy) (g' := gh) 0 1 rfl rfl (by decide); have ne_gh_gy := ne_gy_gh.symm; have ne_gy_gl := H.ne (g := gy) (g' := gl) 0 2 rfl rfl (by decide); have ne_gl_gy := ne_gy_gl.symm; have ne_gy_gx := H.ne (g := gy) (g' := gx) 0 3 rfl rfl (by decide); have ne_gx_gy := ne_gy_gx.symm))
  (try simp only [Act.put, List.setIfInBounds_toArray, List.set_cons_zero, List.set_cons_succ])
  replace H := ((H.setn [] 0 (.bool (ng y)) rfl).setn [] 1 (.slice A28 (ln y) c29) rfl)
  clear kgy_0 zgy_0 kgy_1 zgy_1 kgh_0 zgh_0 kgh_1 zgh_1 kgl_0 zgl_0 kgl_1 zgl_1 kgx_0 zgx_0 kgx_1 zgx_1
  generalize ((w31.setCell ⟨gy, 0, none⟩ (.bool (ng y))).setCell ⟨gy, 1, none⟩ (.slice A28 (ln y) c29)) = w33 at H ⊢
  have kgy_0 : w33.cell? ⟨gy, 0, none⟩ = some (.bool (ng y)) := H.cell m0 0
  have zgy_0 := H.frozen (g := gy) m0 0
  have kgy_1 : w33.cell? ⟨gy, 1, none⟩ = some (.slice A28 (ln y) c29) := H.cell m0 1
  have zgy_1 := H.frozen (g := gy) m0 1
  have kgh_0 : w33.cell? ⟨gh, 0, none⟩ = some (.bool (ng hi)) := H.cell m1 0
  have zgh_0 := H.frozen (g := gh) m1 0
  have kgh_1 : w33.cell? ⟨gh, 1, none⟩ = some (.slice A19 (ln hi) c20) := H.cell m1 1
  have zgh_1 := H.frozen (g := gh) m1 1
  have kgl_0 : w33.cell? ⟨gl, 0, none⟩ = some (.bool (ng lo)) := H.cell m2 0
  have zgl_0 := H.frozen (g := gl) m2 0
  have kgl_1 : w33.cell? ⟨gl, 1, none⟩ = some (.slice A15 (ln lo) c16) := H.cell m2 1
  have zgl_1 := H.frozen (g := gl) m2 1
  have kgx_0 : w33.cell? ⟨gx, 0, none⟩ = some (.bool (ng n)) := H.cell m3 0
  have zgx_0 := H.frozen (g := gx) m3 0
  have kgx_1 : w33.cell? ⟨gx, 1, none⟩ = some (.slice A4 (ln n) c5) := H.cell m3 1
  have zgx_1 := H.frozen (g := gx) m3 1
  have st35 := trivial
  have c1 := Aside0.mk (show cmp3 y lo = k1 by rw [← hlo.out]; exact hk1.out)
  have c2 := Aside0.mk (show cmp3 y hi = k2 by rw [← hhi.out]; exact hk2.out)
  have st37 := trivial
  have st39 := trivial
  go_upto_region 21 with (first
    | (clear st35; go_at_call 29; (with_reducible refine (IntQ (H.row _ m0) y true iy.out hfit.out).mono ?_); rintro e w34 ⟨rfl, hb⟩; replace H := H.call hb; clear hb; clear kgy_0 zgy_0 kgy_1 zgy_1 kgh_0 zgh_0 kgh_1 zgh_1 kgl_0 zgl_0 kgl_1 zgl_1 kgx_0 zgx_0 kgx_1 zgx_1; have kgy_0 : w34.cell? ⟨gy, 0, none⟩ = some (.bool (ng y)) := H.cell m0 0; have zgy_0 := H.frozen (g := gy) m0 0; have kgy_1 : w34.cell? ⟨gy, 1, none⟩ = some (.slice A28 (ln y) c29) := H.cell m0 1; have zgy_1 := H.frozen (g := gy) m0 1; have kgh_0 : w34.cell? ⟨gh, 0, none⟩ = some (.bool (ng hi)) := H.cell m1 0; have zgh_0 := H.frozen (g := gh) m1 0; have kgh_1 : w34.cell? ⟨gh, 1, none⟩ = some (.slice A19 (ln hi) c20) := H.cell m1 1; have zgh_1 := H.frozen (g := gh) m1 1; have kgl_0 : w34.cell? ⟨gl, 0, none⟩ = some (.bool (ng lo)) := H.cell m2 0; have zgl_0 := H.frozen (g := gl) m2 0; have kgl_1 : w34.cell? ⟨gl, 1, none⟩ = some (.slice A15 (ln lo) c16) := H.cell m2 1; have zgl_1 := H.frozen (g := gl) m2 1; have kgx_0 : w34.cell? ⟨gx, 0, none⟩ = some (.bool (ng n)) := H.cell m3 0; have zgx_0 := H.frozen (g := gx) m3 0; have kgx_1 : w34.cell? ⟨gx, 1, none⟩ = some (.slice A4 (ln n) c5) := H.cell m3 1; have zgx_1 := H.frozen (g := gx) m3 1)
    | (clear st37; go_at_call 34; (with_reducible refine (CmpQ (H.row _ m0) (H.row _ m2) (lim bY.out (by decide)) (lim blo.out (by decide)) k1 c1.out).mono ?_); rintro e w36 ⟨rfl, hb⟩; replace H := H.call hb; clear hb; clear kgy_0 zgy_0 kgy_1 zgy_1 kgh_0 zgh_0 kgh_1 zgh_1 kgl_0 zgl_0 kgl_1 zgl_1 kgx_0 zgx_0 kgx_1 zgx_1; have kgy_0 : w36.cell? ⟨gy, 0, none⟩ = some (.bool (ng y)) := H.cell m0 0; have zgy_0 := H.frozen (g := gy) m0 0; have kgy_1 : w36.cell? ⟨gy, 1, none⟩ = some (.slice A28 (ln y) c29) := H.cell m0 1; have zgy_1 := H.frozen (g := gy) m0 1; have kgh_0 : w36.cell? ⟨gh, 0, none⟩ = some (.bool (ng hi)) := H.cell m1 0; have zgh_0 := H.frozen (g := gh) m1 0; have kgh_1 : w36.cell? ⟨gh, 1, none⟩ = some (.slice A19 (ln hi) c20) := H.cell m1 1; have zgh_1 := H.frozen (g := gh) m1 1; have kgl_0 : w36.cell? ⟨gl, 0, none⟩ = some (.bool (ng lo)) := H.cell m2 0; have zgl_0 := H.frozen (g := gl) m2 0; have kgl_1 : w36.cell? ⟨gl, 1, none⟩ = some (.slice A15 (ln lo) c16) := H.cell m2 1; have zgl_1 := H.frozen (g := gl) m2 1; have kgx_0 : w36.cell? ⟨gx, 0, none⟩ = some (.bool (ng n)) := H.cell m3 0; have zgx_0 := H.frozen (g := gx) m3 0; have kgx_1 : w36.cell? ⟨gx, 1, none⟩ = some (.slice A4 (ln n) c5) := H.cell m3 1; have zgx_1 := H.frozen (g := gx) m3 1)
    | (clear st39; go_at_call 34; (with_reducible refine (CmpQ (H.row _ m0) (H.row _ m1) (lim bY.out (by decide)) (lim bhi.out (by decide)) k2 c2.out).mono ?_); rintro e w38 ⟨rfl, hb⟩; replace H := H.call hb; clear hb; clear kgy_0 zgy_0 kgy_1 zgy_1 kgh_0 zgh_0 kgh_1 zgh_1 kgl_0 zgl_0 kgl_1 zgl_1 kgx_0 zgx_0 kgx_1 zgx_1; have kgy_0 : w38.cell? ⟨gy, 0, none⟩ = some (.bool (ng y)) := H.cell m0 0; have zgy_0 := H.frozen (g := gy) m0 0; have kgy_1 : w38.cell? ⟨gy, 1, none⟩ = some (.slice A28 (ln y) c29) := H.cell m0 1; have zgy_1 := H.frozen (g := gy) m0 1; have kgh_0 : w38.cell? ⟨gh, 0, none⟩ = some (.bool (ng hi)) := H.cell m1 0; have zgh_0 := H.frozen (g := gh) m1 0; have kgh_1 : w38.cell? ⟨gh, 1, none⟩ = some (.slice A19 (ln hi) c20) := H.cell m1 1; have zgh_1 := H.frozen (g := gh) m1 1; have kgl_0 : w38.cell? ⟨gl, 0, none⟩ = some (.bool (ng lo)) := H.cell m2 0; have zgl_0 := H.frozen (g := gl) m2 0; have kgl_1 : w38.cell? ⟨gl, 1, none⟩ = some (.slice A15 (ln lo) c16) := H.cell m2 1; have zgl_1 := H.frozen (g := gl) m2 1; have kgx_0 : w38.cell? ⟨gx, 0, none⟩ = some (.bool (ng n)) := H.cell m3 0; have zgx_0 := H.frozen (g := gx) m3 0; have kgx_1 : w38.cell? ⟨gx, 1, none⟩ = some (.slice A4 (ln n) c5) := H.cell m3 1; have zgx_1 := H.frozen (g := gx) m3 1))
  (try simp only [Act.put, List.setIfInBounds_toArray, List.set_cons_zero, List.set_cons_succ])
  have by_ := bY
  clear kgy_0 zgy_0 kgy_1 zgy_1 kgh_0 zgh_0 kgh_1 zgh_1 kgl_0 zgl_0 kgl_1 zgl_1 kgx_0 zgx_0 kgx_1 zgx_1
  replace H := H.drew
  refine start_ (n := 17) (S := fun w' => w'.cell? ⟨gy, 0, none⟩ = some (.bool (ng y)) ∧ w'.cell? ⟨gy, 1, none⟩ = some (.slice A28 (ln y) c29)) (ds := []) #[false, false, false, false, false, false, false, false, false, false, false, false, false, false, false, false, false] (by kernel_rfl) rfl rfl ⟨H.cell m0 0, H.cell m0 1⟩ (fun hHeld => ?_)
  generalize w38.drew = w40 at H hHeld ⊢
  refine with_tabW tb14.tab21 tb14.bits21 (fun HT_ HW_ => ?_)
  refine pure_ (i := 0) (N := some 70) (v := ?_) (a' := ?_) #[true, false, false, false, false, false, false, false, false, false, false, false, false, false, false, false, false] rfl rfl (any_of HT_.out (by kernel_rfl)) (fun _ _ _ h => h) (Or.inl ⟨by rfl, ?_⟩) ?_ ?_
  rotate_left
  · intro w'
    go_simp
    with_reducible rfl
  rotate_left
  · simp only [Act.put, List.setIfInBounds_toArray, List.set_cons_zero, List.set_cons_succ, i64_w, i32_w]
    rfl
  refine pure_ (i := 1) (N := some 71) (v := ?_) (a' := ?_) #[true, true, false, false, false, false, false, false, false, false, false, false, false, false, false, false, false] rfl rfl (any_of HT_.out (by kernel_rfl)) (fun _ _ _ h => h) (Or.inl ⟨by rfl, ?_⟩) ?_ ?_
  rotate_left
  · intro w'
    go_simp
    with_reducible rfl
  rotate_left
  · simp only [Act.put, List.setIfInBounds_toArray, List.set_cons_zero, List.set_cons_succ, i64_w, i32_w]
    rfl
  refine pure_ (i := 2) (N := some 72) (v := ?_) (a' := ?_) #[true, true, true, false, false, false, false, false, false, false, false, false, false, false, false, false, false] rfl rfl (any_of HT_.out (by kernel_rfl)) (fun _ _ _ h => h) (Or.inl ⟨by rfl, ?_⟩) ?_ ?_
  rotate_left
  · intro w'
    go_simp
    with_reducible rfl
  rotate_left
  · simp only [Act.put, List.setIfInBounds_toArray, List.set_cons_zero, List.set_cons_succ, i64_w, i32_w]
    rfl
  refine pure_ (i := 3) (N := some 73) (v := undef) (a' := ?_) #[true, true, true, true, false, false, false, false, false, false, false, false, false, false, false, false, false] rfl rfl (any_of HT_.out (by kernel_rfl)) (fun _ _ _ h => h) (Or.inr ⟨by rfl, rfl⟩) ?_ ?_
  rotate_left
  · simp only [Act.put, List.setIfInBounds_toArray, List.set_cons_zero, List.set_cons_succ, i64_w, i32_w]
    rfl
  refine pure_ (i := 4) (N := some 74) (v := undef) (a' := ?_) #[true, true, true, true, true, false, false, false, false, false, false, false, false, false, false, false, false] rfl rfl (any_of HT_.out (by kernel_rfl)) (fun _ _ _ h => h) (Or.inr ⟨by rfl, rfl⟩) ?_ ?_
  rotate_left
  · simp only [Act.put, List.setIfInBounds_toArray, List.set_cons_zero, List.set_cons_succ, i64_w, i32_w]
    rfl
  refine pure_ (i := 5) (N := some 75) (v := ?_) (a' := ?_) #[true, true, true, true, true, true, false, false, false, false, false, false, false, false, false, false, false] rfl rfl (any_of HT_.out (by kernel_rfl)) (fun _ _ _ h => h) (Or.inl ⟨by rfl, ?_⟩) ?_ ?_
  rotate_left
  · intro w'
    go_simp
    with_reducible rfl
  rotate_left
  · simp only [Act.put, List.setIfInBounds_toArray, List.set_cons_zero, List.set_cons_succ, i64_w, i32_w]
    rfl
  refine pure_ (i := 6) (N := some 76) (v := ?_) (a' := ?_) #[true, true, true, true, true, true, true, false, false, false, false, false, false, false, false, false, false] rfl rfl (any_of HT_.out (by kernel_rfl)) (fun _ _ _ h => h) (Or.inl ⟨by rfl, ?_⟩) ?_ ?_
  rotate_left
  · intro w'
    go_simp
    with_reducible rfl
  rotate_left
  · simp only [Act.put, List.setIfInBounds_toArray, List.set_cons_zero, List.set_cons_succ, i64_w, i32_w]
    rfl
  refine pure_ (i := 7) (N := some 77) (v := ?_) (a' := ?_) #[true, true, true, true, true, true, true, true, false, false, false, false, false, false, false, false, false] rfl rfl (any_of HT_.out (by kernel_rfl)) (fun _ _ _ h => h) (Or.inl ⟨by rfl, ?_⟩) ?_ ?_
  rotate_left
  · intro w'
    go_simp
    with_reducible rfl
  rotate_left
  · simp only [Act.put, List.setIfInBounds_toArray, List.set_cons_zero, List.set_cons_succ, i64_w, i32_w]
    rfl
  refine pure_ (i := 8) (N := some 78) (v := ?_) (a' := ?_) #[true, true, true, true, true, true, true, true, true, false, false, false, false, false, false, false, false] rfl rfl (any_of HT_.out (by kernel_rfl)) (fun _ _ _ h => h) (Or.inl ⟨by rfl, ?_⟩) ?_ ?_
  rotate_left
  · intro w'
    go_simp
    with_reducible rfl
  rotate_left
  · simp only [Act.put, List.setIfInBounds_toArray, List.set_cons_zero, List.set_cons_succ, i64_w, i32_w]
    rfl
  refine pure_ (i := 9) (N := some 79) (v := ?_) (a' := ?_) #[true, true, true, true, true, true, true, true, true, true, false, false, false, false, false, false, false] rfl rfl (any_of HT_.out (by kernel_rfl)) (fun _ _ _ h => h) (Or.inl ⟨by rfl, ?_⟩) ?_ ?_
  rotate_left
  · intro w'
    go_simp
    with_reducible rfl
  rotate_left
  · simp only [Act.put, List.setIfInBounds_toArray, List.set_cons_zero, List.set_cons_succ, i64_w, i32_w]
    rfl
  refine take_ (i := 11) (N := some 81) (v := ?_) (a' := ?_) #[true, true, true, true, true, true, true, true, true, true, false, true, false, false, false, false, false] rfl rfl (take_ofW HT_.out HW_.out (by kernel_rfl)) (fun _ _ _ h => h) (Or.inl ⟨by rfl, ?_⟩) hHeld ?_ ?_
  rotate_left
  · rintro w' ⟨s0, s1⟩
    go_simp
    with_reducible rfl
  rotate_left
  · simp only [Act.put, List.setIfInBounds_toArray, List.set_cons_zero, List.set_cons_succ, i64_w, i32_w]
    rfl
  refine one_ (i := 10) (N := some 80) #[true, true, true, true, true, true, true, true, true, true, true, true, false, false, false, false, false] rfl rfl (one_of HT_.out (by kernel_rfl)) (by decide) (fun K hK => ?_)
  refine goes_ Try.func27 (by kernel_rfl) rfl #[.int .i64 y] (by rfl) rfl rfl (by (try simp only [List.map_toArray, List.map_cons, List.map_nil]); first | done | rfl) ?_
  with_reducible refine (OfQ _ y y2 hy2.out (by omega) (by omega)).mono ?_
  rintro e w41 ⟨A42, c43, rfl, hr, hb⟩
  replace H := H.got (fresh_row hr) hb
  clear hr hb
  refine ⟨_, rfl, ?_⟩
  refine hK.out _ _ ⟨H.cell m0 0, H.cell m0 1⟩ (fun hHeld => ?_)
  clear hK K
  refine norm_ (a' := ?_) ?_ ?_
  rotate_left
  · show Act.put _ (some 80) _ = _
    simp only [Act.put, List.setIfInBounds_toArray, List.set_cons_zero, List.set_cons_succ, i64_w, i32_w]
    rfl
  refine one_ (i := 12) (N := some 82) #[true, true, true, true, true, true, true, true, true, true, true, true, true, false, false, false, false] rfl rfl (one_of HT_.out (by kernel_rfl)) (by decide) (fun K hK => ?_)
  refine goes_ Try.func34 (by kernel_rfl) rfl #[.agg #[.bool (ng y2), .slice A42 (ln y2) c43], .agg #[.bool (ng y), .slice A28 (ln y) c29]] (by rfl) rfl rfl (by (try simp only [List.map_toArray, List.map_cons, List.map_nil]); first | done | rfl) ?_
  with_reducible refine (CmpQ (H.row _ m0) (H.row _ m1) (lim by2.out (by decide)) (lim bY.out (by decide)) 0 hc.out).mono ?_
  rintro e w44 ⟨rfl, hb⟩
  replace H := H.call hb
  clear hb
  refine ⟨_, rfl, ?_⟩
  refine hK.out _ _ ⟨H.cell m0 0, H.cell m0 1⟩ (fun hHeld => ?_)
  clear hK K
  refine norm_ (a' := ?_) ?_ ?_
  rotate_left
  · show Act.put _ (some 82) _ = _
    simp only [Act.put, List.setIfInBounds_toArray, List.set_cons_zero, List.set_cons_succ, i64_w, i32_w]
    rfl
  refine pure_ (i := 13) (N := some 83) (v := ?_) (a' := ?_) #[true, true, true, true, true, true, true, true, true, true, true, true, true, true, false, false, false] rfl rfl (any_of HT_.out (by kernel_rfl)) (fun _ _ _ h => h) (Or.inl ⟨by rfl, ?_⟩) ?_ ?_
  rotate_left
  · intro w'
    go_simp
    with_reducible rfl
  rotate_left
  · simp only [Act.put, List.setIfInBounds_toArray, List.set_cons_zero, List.set_cons_succ, i64_w, i32_w]
    rfl
  refine pure_ (i := 14) (N := some 84) (v := ?_) (a' := ?_) #[true, true, true, true, true, true, true, true, true, true, true, true, true, true, true, false, false] rfl rfl (any_of HT_.out (by kernel_rfl)) (fun _ _ _ h => h) (Or.inl ⟨by rfl, ?_⟩) ?_ ?_
  rotate_left
  · intro w'
    go_simp
    with_reducible rfl
  rotate_left
  · simp only [Act.put, List.setIfInBounds_toArray, List.set_cons_zero, List.set_cons_succ, i64_w, i32_w]
    rfl
  refine pure_ (i := 15) (N := some 85) (v := ?_) (a' := ?_) #[true, true, true, true, true, true, true, true, true, true, true, true, true, true, true, true, false] rfl rfl (any_of HT_.out (by kernel_rfl)) (fun _ _ _ h => h) (Or.inl ⟨by rfl, ?_⟩) ?_ ?_
  rotate_left
  · intro w'
    go_simp
    with_reducible rfl
  rotate_left
  · simp only [Act.put, List.setIfInBounds_toArray, List.set_cons_zero, List.set_cons_succ, i64_w, i32_w]
    rfl
  refine pure_ (i := 16) (N := some 4) (v := ?_) (a' := ?_) #[true, true, true, true, true, true, true, true, true, true, true, true, true, true, true, true, true] rfl rfl (any_of HT_.out (by kernel_rfl)) (fun _ _ _ h => h) (Or.inl ⟨by rfl, ?_⟩) ?_ ?_
  rotate_left
  · intro w'
    go_simp
    with_reducible rfl
  rotate_left
  · simp only [Act.put, List.setIfInBounds_toArray, List.set_cons_zero, List.set_cons_succ, i64_w, i32_w]
    rfl
  refine done_ (done_of HT_.out (by kernel_rfl)) ?_
  try clear hHeld
  go_wp2
  go_ret
  exact ⟨rfl, H.below⟩

set_option maxHeartbeats 8000000 in
set_option maxRecDepth 100000 in
theorem ints_un_n (n : Int) (s : ByteArray) (w : World) (n0 : -9223372036854775808 ≤ n) (n1 : n ≤ 9223372036854775807) (hs : n < 0) (hsz : s.size ≤ 80) (y : Int) (hy : Aside0 (pr s = (y, 0))) (hF : fitsI y = false) : Calls Try.prog 14 #[.int .i64 n, .string s] w (fun e W' => e = .returned (.bool true) ∧ Below w.heap.size w W') := by
  have d1 : decide (80 < (s.size : Int)) = false := decide_eq_false (by omega)
  have d2 : decide (80 < s.size) = false := decide_eq_false (by omega)
  have bY := Aside0.mk (pr_small hy.out hsz)
  obtain ⟨k1, ek1⟩ : ∃ v, cmp3 y (-9223372036854775808) = v := ⟨_, rfl⟩
  obtain ⟨k2, ek2⟩ : ∃ v, cmp3 y 9223372036854775807 = v := ⟨_, rfl⟩
  have hf := fits_iff y
  rw [ek1, ek2] at hf
  have hk1 := Aside0.mk ek1
  have hk2 := Aside0.mk ek2
  clear ek1 ek2
  have hfit := Aside0.mk hF
  have iy := Aside0.mk (show intOfI y = 0 by unfold intOfI; rw [if_neg (of_decide_eq_false hF)])
  rw [hF] at hf
  have hff := Aside0.mk hf
  clear hF hf
  have hu25 := Try.underlying25
  have H := Sit.start w (fun _ => False)
  have bn := Aside0.mk (bOf (r := n) (by omega))
  have i1 := Aside0.mk (show intOfI n = n from intOf_fit n0 n1)
  have f1 := Aside0.mk (show fitsI n = true from fits_fit n0 n1)
  have t1 : (n != n) = false := by simp
  have t2 : decide (0 < n) = false := decide_eq_false (by omega)
  have t3 : decide (n < 0) = true := decide_eq_true (by omega)
  have hsg := Aside0.mk (show sg n = (-1) from sg_neg hs)
  obtain ⟨lo, elo⟩ : ∃ v : Int, (-9223372036854775808 : Int) = v := ⟨_, rfl⟩
  obtain ⟨hi, ehi⟩ : ∃ v : Int, (9223372036854775807 : Int) = v := ⟨_, rfl⟩
  have hlo := Aside0.mk elo
  have hhi := Aside0.mk ehi
  have blo := Aside0.mk (bOf (r := lo) (by omega))
  have bhi := Aside0.mk (bOf (r := hi) (by omega))
  clear elo ehi hs
  go_enter Try.func14, Try.ntmps14
  have st2 := trivial
  have st6 := trivial
  have st8 := trivial
  go_upto_region 4 with (first
    | (clear st2; go_at_call 22; (with_reducible refine (awake_ok _).mono ?_); rintro e wA ⟨rfl, hb⟩; replace H := H.call hb; clear hb)
    | (clear st6; go_at_call 27; (with_reducible refine (OfQ _ n n rfl (by omega) (by omega)).mono ?_); rintro e w3 ⟨A4, c5, rfl, hr, hb⟩; replace H := H.got (fresh_row hr) hb; clear hr hb)
    | (clear st8; (with_reducible refine gate_dst (N := 5) rfl ?_); refine box_event ?hg (N := 5) ?hd (cs := #[.bool false, .slice none 0 0]) (t := 25) ?hr ?_; (case hd => rfl); (case hg => rfl); (case hr => first | (go_simp; done) | (go_simp; rfl)); intro gx hg w7 hbox hb; replace H := H.newbox hg hbox hb; clear hg hbox hb; have kgx_0 : w7.cell? ⟨gx, 0, none⟩ = some (.bool false) := H.cell m0 0; have zgx_0 := H.frozen (g := gx) m0 0; have kgx_1 : w7.cell? ⟨gx, 1, none⟩ = some (.slice none 0 0) := H.cell m0 1; have zgx_1 := H.frozen (g := gx) m0 1))
  (try simp only [Act.put, List.setIfInBounds_toArray, List.set_cons_zero, List.set_cons_succ])
  replace H := ((H.setn [] 0 (.bool (ng n)) rfl).setn [] 1 (.slice A4 (ln n) c5) rfl)
  clear kgx_0 zgx_0 kgx_1 zgx_1
  generalize ((w7.setCell ⟨gx, 0, none⟩ (.bool (ng n))).setCell ⟨gx, 1, none⟩ (.slice A4 (ln n) c5)) = w9 at H ⊢
  have kgx_0 : w9.cell? ⟨gx, 0, none⟩ = some (.bool (ng n)) := H.cell m0 0
  have zgx_0 := H.frozen (g := gx) m0 0
  have kgx_1 : w9.cell? ⟨gx, 1, none⟩ = some (.slice A4 (ln n) c5) := H.cell m0 1
  have zgx_1 := H.frozen (g := gx) m0 1
  have st11 := trivial
  have st13 := trivial
  have st17 := trivial
  have st21 := trivial
  have st23 := trivial
  have st25 := trivial
  go_upto_region 13 with (first
    | (clear st11; go_at_call 29; (with_reducible refine (IntQ (H.row _ m0) n true i1.out f1.out).mono ?_); rintro e w10 ⟨rfl, hb⟩; replace H := H.call hb; clear hb; clear kgx_0 zgx_0 kgx_1 zgx_1; have kgx_0 : w10.cell? ⟨gx, 0, none⟩ = some (.bool (ng n)) := H.cell m0 0; have zgx_0 := H.frozen (g := gx) m0 0; have kgx_1 : w10.cell? ⟨gx, 1, none⟩ = some (.slice A4 (ln n) c5) := H.cell m0 1; have zgx_1 := H.frozen (g := gx) m0 1)
    | (clear st13; go_at_call 25; (with_reducible refine (SignQ _ _ _ (lim bn.out (by decide)) (-1) hsg.out).mono ?_); rintro e w12 ⟨rfl, hb⟩; replace H := H.call hb; clear hb; clear kgx_0 zgx_0 kgx_1 zgx_1; have kgx_0 : w12.cell? ⟨gx, 0, none⟩ = some (.bool (ng n)) := H.cell m0 0; have zgx_0 := H.frozen (g := gx) m0 0; have kgx_1 : w12.cell? ⟨gx, 1, none⟩ = some (.slice A4 (ln n) c5) := H.cell m0 1; have zgx_1 := H.frozen (g := gx) m0 1)
    | (clear st17; go_at_call 27; (with_reducible refine (OfQ _ (-9223372036854775808) lo hlo.out (by omega) (by omega)).mono ?_); rintro e w14 ⟨A15, c16, rfl, hr, hb⟩; replace H := H.got (fresh_row hr) hb; clear hr hb; clear kgx_0 zgx_0 kgx_1 zgx_1; have kgx_0 : w14.cell? ⟨gx, 0, none⟩ = some (.bool (ng n)) := H.cell m0 0; have zgx_0 := H.frozen (g := gx) m0 0; have kgx_1 : w14.cell? ⟨gx, 1, none⟩ = some (.slice A4 (ln n) c5) := H.cell m0 1; have zgx_1 := H.frozen (g := gx) m0 1)
    | (clear st21; go_at_call 27; (with_reducible refine (OfQ _ 9223372036854775807 hi hhi.out (by omega) (by omega)).mono ?_); rintro e w18 ⟨A19, c20, rfl, hr, hb⟩; replace H := H.got (fresh_row hr) hb; clear hr hb; clear kgx_0 zgx_0 kgx_1 zgx_1; have kgx_0 : w18.cell? ⟨gx, 0, none⟩ = some (.bool (ng n)) := H.cell m0 0; have zgx_0 := H.frozen (g := gx) m0 0; have kgx_1 : w18.cell? ⟨gx, 1, none⟩ = some (.slice A4 (ln n) c5) := H.cell m0 1; have zgx_1 := H.frozen (g := gx) m0 1)
    | (clear st23; (with_reducible refine gate_dst (N := 9) rfl ?_); refine box_event ?hg (N := 9) ?hd (cs := #[.bool false, .slice none 0 0]) (t := 25) ?hr ?_; (case hd => rfl); (case hg => rfl); (case hr => first | (go_simp; done) | (go_simp; rfl)); intro gl hg w22 hbox hb; replace H := H.newbox hg hbox hb; clear hg hbox hb; clear kgx_0 zgx_0 kgx_1 zgx_1; have kgl_0 : w22.cell? ⟨gl, 0, none⟩ = some (.bool false) := H.cell m0 0; have zgl_0 := H.frozen (g := gl) m0 0; have kgl_1 : w22.cell? ⟨gl, 1, none⟩ = some (.slice none 0 0) := H.cell m0 1; have zgl_1 := H.frozen (g := gl) m0 1; have kgx_0 : w22.cell? ⟨gx, 0, none⟩ = some (.bool (ng n)) := H.cell m1 0; have zgx_0 := H.frozen (g := gx) m1 0; have kgx_1 : w22.cell? ⟨gx, 1, none⟩ = some (.slice A4 (ln n) c5) := H.cell m1 1; have zgx_1 := H.frozen (g := gx) m1 1; have ne_gl_gx := H.ne (g := gl) (g' := gx) 0 1 rfl rfl (by decide); have ne_gx_gl := ne_gl_gx.symm)
    | (clear st25; (with_reducible refine gate_dst (N := 10) rfl ?_); refine box_event ?hg (N := 10) ?hd (cs := #[.bool false, .slice none 0 0]) (t := 25) ?hr ?_; (case hd => rfl); (case hg => rfl); (case hr => first | (go_simp; done) | (go_simp; rfl)); intro gh hg w24 hbox hb; replace H := H.newbox hg hbox hb; clear hg hbox hb; clear kgl_0 zgl_0 kgl_1 zgl_1 kgx_0 zgx_0 kgx_1 zgx_1; have kgh_0 : w24.cell? ⟨gh, 0, none⟩ = some (.bool false) := H.cell m0 0; have zgh_0 := H.frozen (g := gh) m0 0; have kgh_1 : w24.cell? ⟨gh, 1, none⟩ = some (.slice none 0 0) := H.cell m0 1; have zgh_1 := H.frozen (g := gh) m0 1; have kgl_0 : w24.cell? ⟨gl, 0, none⟩ = some (.bool false) := H.cell m1 0; have zgl_0 := H.frozen (g := gl) m1 0; have kgl_1 : w24.cell? ⟨gl, 1, none⟩ = some (.slice none 0 0) := H.cell m1 1; have zgl_1 := H.frozen (g := gl) m1 1; have kgx_0 : w24.cell? ⟨gx, 0, none⟩ = some (.bool (ng n)) := H.cell m2 0; have zgx_0 := H.frozen (g := gx) m2 0; have kgx_1 : w24.cell? ⟨gx, 1, none⟩ = some (.slice A4 (ln n) c5) := H.cell m2 1; have zgx_1 := H.frozen (g := gx) m2 1; have ne_gh_gl := H.ne (g := gh) (g' := gl) 0 1 rfl rfl (by decide); have ne_gl_gh := ne_gh_gl.symm; have ne_gh_gx := H.ne (g := gh) (g' := gx) 0 2 rfl rfl (by decide); have ne_gx_gh := ne_gh_gx.symm))
  (try simp only [Act.put, List.setIfInBounds_toArray, List.set_cons_zero, List.set_cons_succ])
  replace H := ((((H.setn [_] 0 (.bool (ng lo)) rfl).setn [_] 1 (.slice A15 (ln lo) c16) rfl).setn [] 0 (.bool (ng hi)) rfl).setn [] 1 (.slice A19 (ln hi) c20) rfl)
  clear kgh_0 zgh_0 kgh_1 zgh_1 kgl_0 zgl_0 kgl_1 zgl_1 kgx_0 zgx_0 kgx_1 zgx_1
  generalize ((((w24.setCell ⟨gl, 0, none⟩ (.bool (ng lo))).setCell ⟨gl, 1, none⟩ (.slice A15 (ln lo) c16)).setCell ⟨gh, 0, none⟩ (.bool (ng hi))).setCell ⟨gh, 1, none⟩ (.slice A19 (ln hi) c20)) = w26 at H ⊢
  have kgh_0 : w26.cell? ⟨gh, 0, none⟩ = some (.bool (ng hi)) := H.cell m0 0
  have zgh_0 := H.frozen (g := gh) m0 0
  have kgh_1 : w26.cell? ⟨gh, 1, none⟩ = some (.slice A19 (ln hi) c20) := H.cell m0 1
  have zgh_1 := H.frozen (g := gh) m0 1
  have kgl_0 : w26.cell? ⟨gl, 0, none⟩ = some (.bool (ng lo)) := H.cell m1 0
  have zgl_0 := H.frozen (g := gl) m1 0
  have kgl_1 : w26.cell? ⟨gl, 1, none⟩ = some (.slice A15 (ln lo) c16) := H.cell m1 1
  have zgl_1 := H.frozen (g := gl) m1 1
  have kgx_0 : w26.cell? ⟨gx, 0, none⟩ = some (.bool (ng n)) := H.cell m2 0
  have zgx_0 := H.frozen (g := gx) m2 0
  have kgx_1 : w26.cell? ⟨gx, 1, none⟩ = some (.slice A4 (ln n) c5) := H.cell m2 1
  have zgx_1 := H.frozen (g := gx) m2 1
  have st30 := trivial
  have st32 := trivial
  go_upto_region 16 with (first
    | (clear st30; go_at_call 23; (with_reducible refine (ParseQ s _ y 0 hy.out).mono ?_); rintro e w27 ⟨A28, c29, rfl, hr, hb⟩; replace H := H.got (fresh_row hr) hb; clear hr hb; clear kgh_0 zgh_0 kgh_1 zgh_1 kgl_0 zgl_0 kgl_1 zgl_1 kgx_0 zgx_0 kgx_1 zgx_1; have kgh_0 : w27.cell? ⟨gh, 0, none⟩ = some (.bool (ng hi)) := H.cell m0 0; have zgh_0 := H.frozen (g := gh) m0 0; have kgh_1 : w27.cell? ⟨gh, 1, none⟩ = some (.slice A19 (ln hi) c20) := H.cell m0 1; have zgh_1 := H.frozen (g := gh) m0 1; have kgl_0 : w27.cell? ⟨gl, 0, none⟩ = some (.bool (ng lo)) := H.cell m1 0; have zgl_0 := H.frozen (g := gl) m1 0; have kgl_1 : w27.cell? ⟨gl, 1, none⟩ = some (.slice A15 (ln lo) c16) := H.cell m1 1; have zgl_1 := H.frozen (g := gl) m1 1; have kgx_0 : w27.cell? ⟨gx, 0, none⟩ = some (.bool (ng n)) := H.cell m2 0; have zgx_0 := H.frozen (g := gx) m2 0; have kgx_1 : w27.cell? ⟨gx, 1, none⟩ = some (.slice A4 (ln n) c5) := H.cell m2 1; have zgx_1 := H.frozen (g := gx) m2 1)
    | (clear st32; (with_reducible refine gate_dst (N := 11) rfl ?_); refine box_event ?hg (N := 11) ?hd (cs := #[.bool false, .slice none 0 0]) (t := 25) ?hr ?_; (case hd => rfl); (case hg => rfl); (case hr => first | (go_simp; done) | (go_simp; rfl)); intro gy hg w31 hbox hb; replace H := H.newbox hg hbox hb; clear hg hbox hb; clear kgh_0 zgh_0 kgh_1 zgh_1 kgl_0 zgl_0 kgl_1 zgl_1 kgx_0 zgx_0 kgx_1 zgx_1; have kgy_0 : w31.cell? ⟨gy, 0, none⟩ = some (.bool false) := H.cell m0 0; have zgy_0 := H.frozen (g := gy) m0 0; have kgy_1 : w31.cell? ⟨gy, 1, none⟩ = some (.slice none 0 0) := H.cell m0 1; have zgy_1 := H.frozen (g := gy) m0 1; have kgh_0 : w31.cell? ⟨gh, 0, none⟩ = some (.bool (ng hi)) := H.cell m1 0; have zgh_0 := H.frozen (g := gh) m1 0; have kgh_1 : w31.cell? ⟨gh, 1, none⟩ = some (.slice A19 (ln hi) c20) := H.cell m1 1; have zgh_1 := H.frozen (g := gh) m1 1; have kgl_0 : w31.cell? ⟨gl, 0, none⟩ = some (.bool (ng lo)) := H.cell m2 0; have zgl_0 := H.frozen (g := gl) m2 0; have kgl_1 : w31.cell? ⟨gl, 1, none⟩ = some (.slice A15 (ln lo) c16) := H.cell m2 1; have zgl_1 := H.frozen (g := gl) m2 1; have kgx_0 : w31.cell? ⟨gx, 0, none⟩ = some (.bool (ng n)) := H.cell m3 0; have zgx_0 := H.frozen (g := gx) m3 0; have kgx_1 : w31.cell? ⟨gx, 1, none⟩ = some (.slice A4 (ln n) c5) := H.cell m3 1; have zgx_1 := H.frozen (g := gx) m3 1; have ne_gy_gh := H.ne (g := gy) (g' := gh) 0 1 rfl rfl (by decide); have ne_gh_gy := ne_gy_gh.symm; have ne_gy_gl := H.ne (g := gy) (g' := gl) 0 2 rfl rfl (by decide); have ne_gl_gy := ne_gy_gl.symm; have ne_gy_gx := H.ne (g := gy) (g' := gx) 0 3 rfl rfl (by decide); have ne_gx_gy := ne_gy_gx.symm))
  (try simp only [Act.put, List.setIfInBounds_toArray, List.set_cons_zero, List.set_cons_succ])
  replace H := ((H.setn [] 0 (.bool (ng y)) rfl).setn [] 1 (.slice A28 (ln y) c29) rfl)
  clear kgy_0 zgy_0 kgy_1 zgy_1 kgh_0 zgh_0 kgh_1 zgh_1 kgl_0 zgl_0 kgl_1 zgl_1 kgx_0 zgx_0 kgx_1 zgx_1
  generalize ((w31.setCell ⟨gy, 0, none⟩ (.bool (ng y))).setCell ⟨gy, 1, none⟩ (.slice A28 (ln y) c29)) = w33 at H ⊢
  have kgy_0 : w33.cell? ⟨gy, 0, none⟩ = some (.bool (ng y)) := H.cell m0 0
  have zgy_0 := H.frozen (g := gy) m0 0
  have kgy_1 : w33.cell? ⟨gy, 1, none⟩ = some (.slice A28 (ln y) c29) := H.cell m0 1
  have zgy_1 := H.frozen (g := gy) m0 1
  have kgh_0 : w33.cell? ⟨gh, 0, none⟩ = some (.bool (ng hi)) := H.cell m1 0
  have zgh_0 := H.frozen (g := gh) m1 0
  have kgh_1 : w33.cell? ⟨gh, 1, none⟩ = some (.slice A19 (ln hi) c20) := H.cell m1 1
  have zgh_1 := H.frozen (g := gh) m1 1
  have kgl_0 : w33.cell? ⟨gl, 0, none⟩ = some (.bool (ng lo)) := H.cell m2 0
  have zgl_0 := H.frozen (g := gl) m2 0
  have kgl_1 : w33.cell? ⟨gl, 1, none⟩ = some (.slice A15 (ln lo) c16) := H.cell m2 1
  have zgl_1 := H.frozen (g := gl) m2 1
  have kgx_0 : w33.cell? ⟨gx, 0, none⟩ = some (.bool (ng n)) := H.cell m3 0
  have zgx_0 := H.frozen (g := gx) m3 0
  have kgx_1 : w33.cell? ⟨gx, 1, none⟩ = some (.slice A4 (ln n) c5) := H.cell m3 1
  have zgx_1 := H.frozen (g := gx) m3 1
  have st35 := trivial
  have c1 := Aside0.mk (show cmp3 y lo = k1 by rw [← hlo.out]; exact hk1.out)
  have c2 := Aside0.mk (show cmp3 y hi = k2 by rw [← hhi.out]; exact hk2.out)
  by_cases hu : 0 ≤ k1
  · skip
    have u1 : decide (0 ≤ k1) = true := decide_eq_true hu
    have u2 : decide (k2 ≤ 0) = false := by have hf := hff.out; have u1' : decide (k1 ≥ 0) = true := u1; rw [u1', Bool.true_and] at hf; exact hf.symm
    have st37 := trivial
    have st39 := trivial
    go_upto_region 21 with (first
      | (clear st35; go_at_call 29; (with_reducible refine (IntQ (H.row _ m0) 0 false iy.out hfit.out).mono ?_); rintro e w34 ⟨rfl, hb⟩; replace H := H.call hb; clear hb; clear kgy_0 zgy_0 kgy_1 zgy_1 kgh_0 zgh_0 kgh_1 zgh_1 kgl_0 zgl_0 kgl_1 zgl_1 kgx_0 zgx_0 kgx_1 zgx_1; have kgy_0 : w34.cell? ⟨gy, 0, none⟩ = some (.bool (ng y)) := H.cell m0 0; have zgy_0 := H.frozen (g := gy) m0 0; have kgy_1 : w34.cell? ⟨gy, 1, none⟩ = some (.slice A28 (ln y) c29) := H.cell m0 1; have zgy_1 := H.frozen (g := gy) m0 1; have kgh_0 : w34.cell? ⟨gh, 0, none⟩ = some (.bool (ng hi)) := H.cell m1 0; have zgh_0 := H.frozen (g := gh) m1 0; have kgh_1 : w34.cell? ⟨gh, 1, none⟩ = some (.slice A19 (ln hi) c20) := H.cell m1 1; have zgh_1 := H.frozen (g := gh) m1 1; have kgl_0 : w34.cell? ⟨gl, 0, none⟩ = some (.bool (ng lo)) := H.cell m2 0; have zgl_0 := H.frozen (g := gl) m2 0; have kgl_1 : w34.cell? ⟨gl, 1, none⟩ = some (.slice A15 (ln lo) c16) := H.cell m2 1; have zgl_1 := H.frozen (g := gl) m2 1; have kgx_0 : w34.cell? ⟨gx, 0, none⟩ = some (.bool (ng n)) := H.cell m3 0; have zgx_0 := H.frozen (g := gx) m3 0; have kgx_1 : w34.cell? ⟨gx, 1, none⟩ = some (.slice A4 (ln n) c5) := H.cell m3 1; have zgx_1 := H.frozen (g := gx) m3 1)
      | (clear st37; go_at_call 34; (with_reducible refine (CmpQ (H.row _ m0) (H.row _ m2) (lim bY.out (by decide)) (lim blo.out (by decide)) k1 c1.out).mono ?_); rintro e w36 ⟨rfl, hb⟩; replace H := H.call hb; clear hb; clear kgy_0 zgy_0 kgy_1 zgy_1 kgh_0 zgh_0 kgh_1 zgh_1 kgl_0 zgl_0 kgl_1 zgl_1 kgx_0 zgx_0 kgx_1 zgx_1; have kgy_0 : w36.cell? ⟨gy, 0, none⟩ = some (.bool (ng y)) := H.cell m0 0; have zgy_0 := H.frozen (g := gy) m0 0; have kgy_1 : w36.cell? ⟨gy, 1, none⟩ = some (.slice A28 (ln y) c29) := H.cell m0 1; have zgy_1 := H.frozen (g := gy) m0 1; have kgh_0 : w36.cell? ⟨gh, 0, none⟩ = some (.bool (ng hi)) := H.cell m1 0; have zgh_0 := H.frozen (g := gh) m1 0; have kgh_1 : w36.cell? ⟨gh, 1, none⟩ = some (.slice A19 (ln hi) c20) := H.cell m1 1; have zgh_1 := H.frozen (g := gh) m1 1; have kgl_0 : w36.cell? ⟨gl, 0, none⟩ = some (.bool (ng lo)) := H.cell m2 0; have zgl_0 := H.frozen (g := gl) m2 0; have kgl_1 : w36.cell? ⟨gl, 1, none⟩ = some (.slice A15 (ln lo) c16) := H.cell m2 1; have zgl_1 := H.frozen (g := gl) m2 1; have kgx_0 : w36.cell? ⟨gx, 0, none⟩ = some (.bool (ng n)) := H.cell m3 0; have zgx_0 := H.frozen (g := gx) m3 0; have kgx_1 : w36.cell? ⟨gx, 1, none⟩ = some (.slice A4 (ln n) c5) := H.cell m3 1; have zgx_1 := H.frozen (g := gx) m3 1)
      | (clear st39; go_at_call 34; (with_reducible refine (CmpQ (H.row _ m0) (H.row _ m1) (lim bY.out (by decide)) (lim bhi.out (by decide)) k2 c2.out).mono ?_); rintro e w38 ⟨rfl, hb⟩; replace H := H.call hb; clear hb; clear kgy_0 zgy_0 kgy_1 zgy_1 kgh_0 zgh_0 kgh_1 zgh_1 kgl_0 zgl_0 kgl_1 zgl_1 kgx_0 zgx_0 kgx_1 zgx_1; have kgy_0 : w38.cell? ⟨gy, 0, none⟩ = some (.bool (ng y)) := H.cell m0 0; have zgy_0 := H.frozen (g := gy) m0 0; have kgy_1 : w38.cell? ⟨gy, 1, none⟩ = some (.slice A28 (ln y) c29) := H.cell m0 1; have zgy_1 := H.frozen (g := gy) m0 1; have kgh_0 : w38.cell? ⟨gh, 0, none⟩ = some (.bool (ng hi)) := H.cell m1 0; have zgh_0 := H.frozen (g := gh) m1 0; have kgh_1 : w38.cell? ⟨gh, 1, none⟩ = some (.slice A19 (ln hi) c20) := H.cell m1 1; have zgh_1 := H.frozen (g := gh) m1 1; have kgl_0 : w38.cell? ⟨gl, 0, none⟩ = some (.bool (ng lo)) := H.cell m2 0; have zgl_0 := H.frozen (g := gl) m2 0; have kgl_1 : w38.cell? ⟨gl, 1, none⟩ = some (.slice A15 (ln lo) c16) := H.cell m2 1; have zgl_1 := H.frozen (g := gl) m2 1; have kgx_0 : w38.cell? ⟨gx, 0, none⟩ = some (.bool (ng n)) := H.cell m3 0; have zgx_0 := H.frozen (g := gx) m3 0; have kgx_1 : w38.cell? ⟨gx, 1, none⟩ = some (.slice A4 (ln n) c5) := H.cell m3 1; have zgx_1 := H.frozen (g := gx) m3 1))
    (try simp only [Act.put, List.setIfInBounds_toArray, List.set_cons_zero, List.set_cons_succ])
    clear kgy_0 zgy_0 kgy_1 zgy_1 kgh_0 zgh_0 kgh_1 zgh_1 kgl_0 zgl_0 kgl_1 zgl_1 kgx_0 zgx_0 kgx_1 zgx_1
    replace H := H.drew
    refine start_ (n := 17) (S := fun w' => True) (ds := []) #[false, false, false, false, false, false, false, false, false, false, false, false, false, false, false, false, false] (by kernel_rfl) rfl rfl trivial (fun hHeld => ?_)
    generalize w38.drew = w40 at H hHeld ⊢
    refine with_tabW tb14.tab21 tb14.bits21 (fun HT_ HW_ => ?_)
    refine pure_ (i := 0) (N := some 70) (v := ?_) (a' := ?_) #[true, false, false, false, false, false, false, false, false, false, false, false, false, false, false, false, false] rfl rfl (any_of HT_.out (by kernel_rfl)) (fun _ _ _ h => h) (Or.inl ⟨by rfl, ?_⟩) ?_ ?_
    rotate_left
    · intro w'
      go_simp
      with_reducible rfl
    rotate_left
    · simp only [Act.put, List.setIfInBounds_toArray, List.set_cons_zero, List.set_cons_succ, i64_w, i32_w]
      rfl
    refine pure_ (i := 1) (N := some 71) (v := ?_) (a' := ?_) #[true, true, false, false, false, false, false, false, false, false, false, false, false, false, false, false, false] rfl rfl (any_of HT_.out (by kernel_rfl)) (fun _ _ _ h => h) (Or.inl ⟨by rfl, ?_⟩) ?_ ?_
    rotate_left
    · intro w'
      go_simp
      with_reducible rfl
    rotate_left
    · simp only [Act.put, List.setIfInBounds_toArray, List.set_cons_zero, List.set_cons_succ, i64_w, i32_w]
      rfl
    refine pure_ (i := 2) (N := some 72) (v := ?_) (a' := ?_) #[true, true, true, false, false, false, false, false, false, false, false, false, false, false, false, false, false] rfl rfl (any_of HT_.out (by kernel_rfl)) (fun _ _ _ h => h) (Or.inl ⟨by rfl, ?_⟩) ?_ ?_
    rotate_left
    · intro w'
      go_simp
      with_reducible rfl
    rotate_left
    · simp only [Act.put, List.setIfInBounds_toArray, List.set_cons_zero, List.set_cons_succ, i64_w, i32_w]
      rfl
    refine pure_ (i := 3) (N := some 73) (v := ?_) (a' := ?_) #[true, true, true, true, false, false, false, false, false, false, false, false, false, false, false, false, false] rfl rfl (any_of HT_.out (by kernel_rfl)) (fun _ _ _ h => h) (Or.inl ⟨by rfl, ?_⟩) ?_ ?_
    rotate_left
    · intro w'
      go_simp
      with_reducible rfl
    rotate_left
    · simp only [Act.put, List.setIfInBounds_toArray, List.set_cons_zero, List.set_cons_succ, i64_w, i32_w]
      rfl
    refine pure_ (i := 4) (N := some 74) (v := ?_) (a' := ?_) #[true, true, true, true, true, false, false, false, false, false, false, false, false, false, false, false, false] rfl rfl (any_of HT_.out (by kernel_rfl)) (fun _ _ _ h => h) (Or.inl ⟨by rfl, ?_⟩) ?_ ?_
    rotate_left
    · intro w'
      go_simp
      with_reducible rfl
    rotate_left
    · simp only [Act.put, List.setIfInBounds_toArray, List.set_cons_zero, List.set_cons_succ, i64_w, i32_w]
      rfl
    refine pure_ (i := 5) (N := some 75) (v := ?_) (a' := ?_) #[true, true, true, true, true, true, false, false, false, false, false, false, false, false, false, false, false] rfl rfl (any_of HT_.out (by kernel_rfl)) (fun _ _ _ h => h) (Or.inl ⟨by rfl, ?_⟩) ?_ ?_
    rotate_left
    · intro w'
      go_simp
      with_reducible rfl
    rotate_left
    · simp only [Act.put, List.setIfInBounds_toArray, List.set_cons_zero, List.set_cons_succ, i64_w, i32_w]
      rfl
    refine pure_ (i := 6) (N := some 76) (v := ?_) (a' := ?_) #[true, true, true, true, true, true, true, false, false, false, false, false, false, false, false, false, false] rfl rfl (any_of HT_.out (by kernel_rfl)) (fun _ _ _ h => h) (Or.inl ⟨by rfl, ?_⟩) ?_ ?_
    rotate_left
    · intro w'
      go_simp
      with_reducible rfl
    rotate_left
    · simp only [Act.put, List.setIfInBounds_toArray, List.set_cons_zero, List.set_cons_succ, i64_w, i32_w]
      rfl
    refine pure_ (i := 7) (N := some 77) (v := undef) (a' := ?_) #[true, true, true, true, true, true, true, true, false, false, false, false, false, false, false, false, false] rfl rfl (any_of HT_.out (by kernel_rfl)) (fun _ _ _ h => h) (Or.inr ⟨by rfl, rfl⟩) ?_ ?_
    rotate_left
    · simp only [Act.put, List.setIfInBounds_toArray, List.set_cons_zero, List.set_cons_succ, i64_w, i32_w]
      rfl
    refine pure_ (i := 8) (N := some 78) (v := undef) (a' := ?_) #[true, true, true, true, true, true, true, true, true, false, false, false, false, false, false, false, false] rfl rfl (any_of HT_.out (by kernel_rfl)) (fun _ _ _ h => h) (Or.inr ⟨by rfl, rfl⟩) ?_ ?_
    rotate_left
    · simp only [Act.put, List.setIfInBounds_toArray, List.set_cons_zero, List.set_cons_succ, i64_w, i32_w]
      rfl
    refine pure_ (i := 9) (N := some 79) (v := undef) (a' := ?_) #[true, true, true, true, true, true, true, true, true, true, false, false, false, false, false, false, false] rfl rfl (any_of HT_.out (by kernel_rfl)) (fun _ _ _ h => h) (Or.inr ⟨by rfl, rfl⟩) ?_ ?_
    rotate_left
    · simp only [Act.put, List.setIfInBounds_toArray, List.set_cons_zero, List.set_cons_succ, i64_w, i32_w]
      rfl
    refine pure_ (i := 10) (N := some 80) (v := undef) (a' := ?_) #[true, true, true, true, true, true, true, true, true, true, true, false, false, false, false, false, false] rfl rfl (any_of HT_.out (by kernel_rfl)) (fun _ _ _ h => h) (Or.inr ⟨by rfl, rfl⟩) ?_ ?_
    rotate_left
    · simp only [Act.put, List.setIfInBounds_toArray, List.set_cons_zero, List.set_cons_succ, i64_w, i32_w]
      rfl
    refine pure_ (i := 11) (N := some 81) (v := undef) (a' := ?_) #[true, true, true, true, true, true, true, true, true, true, true, true, false, false, false, false, false] rfl rfl (any_of HT_.out (by kernel_rfl)) (fun _ _ _ h => h) (Or.inr ⟨by rfl, rfl⟩) ?_ ?_
    rotate_left
    · simp only [Act.put, List.setIfInBounds_toArray, List.set_cons_zero, List.set_cons_succ, i64_w, i32_w]
      rfl
    refine pure_ (i := 12) (N := some 82) (v := undef) (a' := ?_) #[true, true, true, true, true, true, true, true, true, true, true, true, true, false, false, false, false] rfl rfl (any_of HT_.out (by kernel_rfl)) (fun _ _ _ h => h) (Or.inr ⟨by rfl, rfl⟩) ?_ ?_
    rotate_left
    · simp only [Act.put, List.setIfInBounds_toArray, List.set_cons_zero, List.set_cons_succ, i64_w, i32_w]
      rfl
    refine pure_ (i := 13) (N := some 83) (v := undef) (a' := ?_) #[true, true, true, true, true, true, true, true, true, true, true, true, true, true, false, false, false] rfl rfl (any_of HT_.out (by kernel_rfl)) (fun _ _ _ h => h) (Or.inr ⟨by rfl, rfl⟩) ?_ ?_
    rotate_left
    · simp only [Act.put, List.setIfInBounds_toArray, List.set_cons_zero, List.set_cons_succ, i64_w, i32_w]
      rfl
    refine pure_ (i := 14) (N := some 84) (v := undef) (a' := ?_) #[true, true, true, true, true, true, true, true, true, true, true, true, true, true, true, false, false] rfl rfl (any_of HT_.out (by kernel_rfl)) (fun _ _ _ h => h) (Or.inr ⟨by rfl, rfl⟩) ?_ ?_
    rotate_left
    · simp only [Act.put, List.setIfInBounds_toArray, List.set_cons_zero, List.set_cons_succ, i64_w, i32_w]
      rfl
    refine pure_ (i := 15) (N := some 85) (v := ?_) (a' := ?_) #[true, true, true, true, true, true, true, true, true, true, true, true, true, true, true, true, false] rfl rfl (any_of HT_.out (by kernel_rfl)) (fun _ _ _ h => h) (Or.inl ⟨by rfl, ?_⟩) ?_ ?_
    rotate_left
    · intro w'
      go_simp
      with_reducible rfl
    rotate_left
    · simp only [Act.put, List.setIfInBounds_toArray, List.set_cons_zero, List.set_cons_succ, i64_w, i32_w]
      rfl
    refine pure_ (i := 16) (N := some 4) (v := ?_) (a' := ?_) #[true, true, true, true, true, true, true, true, true, true, true, true, true, true, true, true, true] rfl rfl (any_of HT_.out (by kernel_rfl)) (fun _ _ _ h => h) (Or.inl ⟨by rfl, ?_⟩) ?_ ?_
    rotate_left
    · intro w'
      go_simp
      with_reducible rfl
    rotate_left
    · simp only [Act.put, List.setIfInBounds_toArray, List.set_cons_zero, List.set_cons_succ, i64_w, i32_w]
      rfl
    refine done_ (done_of HT_.out (by kernel_rfl)) ?_
    try clear hHeld
    go_wp2
    go_ret
    exact ⟨rfl, H.below⟩
  · skip
    have u1 : decide (0 ≤ k1) = false := decide_eq_false hu
    have st42 := trivial
    go_upto_region 21 with (first
      | (clear st35; go_at_call 29; (with_reducible refine (IntQ (H.row _ m0) 0 false iy.out hfit.out).mono ?_); rintro e w34 ⟨rfl, hb⟩; replace H := H.call hb; clear hb; clear kgy_0 zgy_0 kgy_1 zgy_1 kgh_0 zgh_0 kgh_1 zgh_1 kgl_0 zgl_0 kgl_1 zgl_1 kgx_0 zgx_0 kgx_1 zgx_1; have kgy_0 : w34.cell? ⟨gy, 0, none⟩ = some (.bool (ng y)) := H.cell m0 0; have zgy_0 := H.frozen (g := gy) m0 0; have kgy_1 : w34.cell? ⟨gy, 1, none⟩ = some (.slice A28 (ln y) c29) := H.cell m0 1; have zgy_1 := H.frozen (g := gy) m0 1; have kgh_0 : w34.cell? ⟨gh, 0, none⟩ = some (.bool (ng hi)) := H.cell m1 0; have zgh_0 := H.frozen (g := gh) m1 0; have kgh_1 : w34.cell? ⟨gh, 1, none⟩ = some (.slice A19 (ln hi) c20) := H.cell m1 1; have zgh_1 := H.frozen (g := gh) m1 1; have kgl_0 : w34.cell? ⟨gl, 0, none⟩ = some (.bool (ng lo)) := H.cell m2 0; have zgl_0 := H.frozen (g := gl) m2 0; have kgl_1 : w34.cell? ⟨gl, 1, none⟩ = some (.slice A15 (ln lo) c16) := H.cell m2 1; have zgl_1 := H.frozen (g := gl) m2 1; have kgx_0 : w34.cell? ⟨gx, 0, none⟩ = some (.bool (ng n)) := H.cell m3 0; have zgx_0 := H.frozen (g := gx) m3 0; have kgx_1 : w34.cell? ⟨gx, 1, none⟩ = some (.slice A4 (ln n) c5) := H.cell m3 1; have zgx_1 := H.frozen (g := gx) m3 1)
      | (clear st42; go_at_call 34; (with_reducible refine (CmpQ (H.row _ m0) (H.row _ m2) (lim bY.out (by decide)) (lim blo.out (by decide)) k1 c1.out).mono ?_); rintro e w41 ⟨rfl, hb⟩; replace H := H.call hb; clear hb; clear kgy_0 zgy_0 kgy_1 zgy_1 kgh_0 zgh_0 kgh_1 zgh_1 kgl_0 zgl_0 kgl_1 zgl_1 kgx_0 zgx_0 kgx_1 zgx_1; have kgy_0 : w41.cell? ⟨gy, 0, none⟩ = some (.bool (ng y)) := H.cell m0 0; have zgy_0 := H.frozen (g := gy) m0 0; have kgy_1 : w41.cell? ⟨gy, 1, none⟩ = some (.slice A28 (ln y) c29) := H.cell m0 1; have zgy_1 := H.frozen (g := gy) m0 1; have kgh_0 : w41.cell? ⟨gh, 0, none⟩ = some (.bool (ng hi)) := H.cell m1 0; have zgh_0 := H.frozen (g := gh) m1 0; have kgh_1 : w41.cell? ⟨gh, 1, none⟩ = some (.slice A19 (ln hi) c20) := H.cell m1 1; have zgh_1 := H.frozen (g := gh) m1 1; have kgl_0 : w41.cell? ⟨gl, 0, none⟩ = some (.bool (ng lo)) := H.cell m2 0; have zgl_0 := H.frozen (g := gl) m2 0; have kgl_1 : w41.cell? ⟨gl, 1, none⟩ = some (.slice A15 (ln lo) c16) := H.cell m2 1; have zgl_1 := H.frozen (g := gl) m2 1; have kgx_0 : w41.cell? ⟨gx, 0, none⟩ = some (.bool (ng n)) := H.cell m3 0; have zgx_0 := H.frozen (g := gx) m3 0; have kgx_1 : w41.cell? ⟨gx, 1, none⟩ = some (.slice A4 (ln n) c5) := H.cell m3 1; have zgx_1 := H.frozen (g := gx) m3 1))
    (try simp only [Act.put, List.setIfInBounds_toArray, List.set_cons_zero, List.set_cons_succ])
    clear kgy_0 zgy_0 kgy_1 zgy_1 kgh_0 zgh_0 kgh_1 zgh_1 kgl_0 zgl_0 kgl_1 zgl_1 kgx_0 zgx_0 kgx_1 zgx_1
    replace H := H.drew
    refine start_ (n := 17) (S := fun w' => True) (ds := []) #[false, false, false, false, false, false, false, false, false, false, false, false, false, false, false, false, false] (by kernel_rfl) rfl rfl trivial (fun hHeld => ?_)
    generalize w41.drew = w43 at H hHeld ⊢
    refine with_tabW tb14.tab21 tb14.bits21 (fun HT_ HW_ => ?_)
    refine pure_ (i := 0) (N := some 70) (v := ?_) (a' := ?_) #[true, false, false, false, false, false, false, false, false, false, false, false, false, false, false, false, false] rfl rfl (any_of HT_.out (by kernel_rfl)) (fun _ _ _ h => h) (Or.inl ⟨by rfl, ?_⟩) ?_ ?_
    rotate_left
    · intro w'
      go_simp
      with_reducible rfl
    rotate_left
    · simp only [Act.put, List.setIfInBounds_toArray, List.set_cons_zero, List.set_cons_succ, i64_w, i32_w]
      rfl
    refine pure_ (i := 1) (N := some 71) (v := ?_) (a' := ?_) #[true, true, false, false, false, false, false, false, false, false, false, false, false, false, false, false, false] rfl rfl (any_of HT_.out (by kernel_rfl)) (fun _ _ _ h => h) (Or.inl ⟨by rfl, ?_⟩) ?_ ?_
    rotate_left
    · intro w'
      go_simp
      with_reducible rfl
    rotate_left
    · simp only [Act.put, List.setIfInBounds_toArray, List.set_cons_zero, List.set_cons_succ, i64_w, i32_w]
      rfl
    refine pure_ (i := 2) (N := some 72) (v := ?_) (a' := ?_) #[true, true, true, false, false, false, false, false, false, false, false, false, false, false, false, false, false] rfl rfl (any_of HT_.out (by kernel_rfl)) (fun _ _ _ h => h) (Or.inl ⟨by rfl, ?_⟩) ?_ ?_
    rotate_left
    · intro w'
      go_simp
      with_reducible rfl
    rotate_left
    · simp only [Act.put, List.setIfInBounds_toArray, List.set_cons_zero, List.set_cons_succ, i64_w, i32_w]
      rfl
    refine pure_ (i := 3) (N := some 73) (v := ?_) (a' := ?_) #[true, true, true, true, false, false, false, false, false, false, false, false, false, false, false, false, false] rfl rfl (any_of HT_.out (by kernel_rfl)) (fun _ _ _ h => h) (Or.inl ⟨by rfl, ?_⟩) ?_ ?_
    rotate_left
    · intro w'
      go_simp
      with_reducible rfl
    rotate_left
    · simp only [Act.put, List.setIfInBounds_toArray, List.set_cons_zero, List.set_cons_succ, i64_w, i32_w]
      rfl
    refine pure_ (i := 4) (N := some 74) (v := ?_) (a' := ?_) #[true, true, true, true, true, false, false, false, false, false, false, false, false, false, false, false, false] rfl rfl (any_of HT_.out (by kernel_rfl)) (fun _ _ _ h => h) (Or.inl ⟨by rfl, ?_⟩) ?_ ?_
    rotate_left
    · intro w'
      go_simp
      with_reducible rfl
    rotate_left
    · simp only [Act.put, List.setIfInBounds_toArray, List.set_cons_zero, List.set_cons_succ, i64_w, i32_w]
      rfl
    refine pure_ (i := 5) (N := some 75) (v := ?_) (a' := ?_) #[true, true, true, true, true, true, false, false, false, false, false, false, false, false, false, false, false] rfl rfl (any_of HT_.out (by kernel_rfl)) (fun _ _ _ h => h) (Or.inl ⟨by rfl, ?_⟩) ?_ ?_
    rotate_left
    · intro w'
      go_simp
      with_reducible rfl
    rotate_left
    · simp only [Act.put, List.setIfInBounds_toArray, List.set_cons_zero, List.set_cons_succ, i64_w, i32_w]
      rfl
    refine pure_ (i := 6) (N := some 76) (v := ?_) (a' := ?_) #[true, true, true, true, true, true, true, false, false, false, false, false, false, false, false, false, false] rfl rfl (any_of HT_.out (by kernel_rfl)) (fun _ _ _ h => h) (Or.inl ⟨by rfl, ?_⟩) ?_ ?_
    rotate_left
    · intro w'
      go_simp
      with_reducible rfl
    rotate_left
    · simp only [Act.put, List.setIfInBounds_toArray, List.set_cons_zero, List.set_cons_succ, i64_w, i32_w]
      rfl
    refine pure_ (i := 7) (N := some 77) (v := undef) (a' := ?_) #[true, true, true, true, true, true, true, true, false, false, false, false, false, false, false, false, false] rfl rfl (any_of HT_.out (by kernel_rfl)) (fun _ _ _ h => h) (Or.inr ⟨by rfl, rfl⟩) ?_ ?_
    rotate_left
    · simp only [Act.put, List.setIfInBounds_toArray, List.set_cons_zero, List.set_cons_succ, i64_w, i32_w]
      rfl
    refine pure_ (i := 8) (N := some 78) (v := undef) (a' := ?_) #[true, true, true, true, true, true, true, true, true, false, false, false, false, false, false, false, false] rfl rfl (any_of HT_.out (by kernel_rfl)) (fun _ _ _ h => h) (Or.inr ⟨by rfl, rfl⟩) ?_ ?_
    rotate_left
    · simp only [Act.put, List.setIfInBounds_toArray, List.set_cons_zero, List.set_cons_succ, i64_w, i32_w]
      rfl
    refine pure_ (i := 9) (N := some 79) (v := undef) (a' := ?_) #[true, true, true, true, true, true, true, true, true, true, false, false, false, false, false, false, false] rfl rfl (any_of HT_.out (by kernel_rfl)) (fun _ _ _ h => h) (Or.inr ⟨by rfl, rfl⟩) ?_ ?_
    rotate_left
    · simp only [Act.put, List.setIfInBounds_toArray, List.set_cons_zero, List.set_cons_succ, i64_w, i32_w]
      rfl
    refine pure_ (i := 10) (N := some 80) (v := undef) (a' := ?_) #[true, true, true, true, true, true, true, true, true, true, true, false, false, false, false, false, false] rfl rfl (any_of HT_.out (by kernel_rfl)) (fun _ _ _ h => h) (Or.inr ⟨by rfl, rfl⟩) ?_ ?_
    rotate_left
    · simp only [Act.put, List.setIfInBounds_toArray, List.set_cons_zero, List.set_cons_succ, i64_w, i32_w]
      rfl
    refine pure_ (i := 11) (N := some 81) (v := undef) (a' := ?_) #[true, true, true, true, true, true, true, true, true, true, true, true, false, false, false, false, false] rfl rfl (any_of HT_.out (by kernel_rfl)) (fun _ _ _ h => h) (Or.inr ⟨by rfl, rfl⟩) ?_ ?_
    rotate_left
    · simp only [Act.put, List.setIfInBounds_toArray, List.set_cons_zero, List.set_cons_succ, i64_w, i32_w]
      rfl
    refine pure_ (i := 12) (N := some 82) (v := undef) (a' := ?_) #[true, true, true, true, true, true, true, true, true, true, true, true, true, false, false, false, false] rfl rfl (any_of HT_.out (by kernel_rfl)) (fun _ _ _ h => h) (Or.inr ⟨by rfl, rfl⟩) ?_ ?_
    rotate_left
    · simp only [Act.put, List.setIfInBounds_toArray, List.set_cons_zero, List.set_cons_succ, i64_w, i32_w]
      rfl
    refine pure_ (i := 13) (N := some 83) (v := undef) (a' := ?_) #[true, true, true, true, true, true, true, true, true, true, true, true, true, true, false, false, false] rfl rfl (any_of HT_.out (by kernel_rfl)) (fun _ _ _ h => h) (Or.inr ⟨by rfl, rfl⟩) ?_ ?_
    rotate_left
    · simp only [Act.put, List.setIfInBounds_toArray, List.set_cons_zero, List.set_cons_succ, i64_w, i32_w]
      rfl
    refine pure_ (i := 14) (N := some 84) (v := undef) (a' := ?_) #[true, true, true, true, true, true, true, true, true, true, true, true, true, true, true, false, false] rfl rfl (any_of HT_.out (by kernel_rfl)) (fun _ _ _ h => h) (Or.inr ⟨by rfl, rfl⟩) ?_ ?_
    rotate_left
    · simp only [Act.put, List.setIfInBounds_toArray, List.set_cons_zero, List.set_cons_succ, i64_w, i32_w]
      rfl
    refine pure_ (i := 15) (N := some 85) (v := ?_) (a' := ?_) #[true, true, true, true, true, true, true, true, true, true, true, true, true, true, true, true, false] rfl rfl (any_of HT_.out (by kernel_rfl)) (fun _ _ _ h => h) (Or.inl ⟨by rfl, ?_⟩) ?_ ?_
    rotate_left
    · intro w'
      go_simp
      with_reducible rfl
    rotate_left
    · simp only [Act.put, List.setIfInBounds_toArray, List.set_cons_zero, List.set_cons_succ, i64_w, i32_w]
      rfl
    refine pure_ (i := 16) (N := some 4) (v := ?_) (a' := ?_) #[true, true, true, true, true, true, true, true, true, true, true, true, true, true, true, true, true] rfl rfl (any_of HT_.out (by kernel_rfl)) (fun _ _ _ h => h) (Or.inl ⟨by rfl, ?_⟩) ?_ ?_
    rotate_left
    · intro w'
      go_simp
      with_reducible rfl
    rotate_left
    · simp only [Act.put, List.setIfInBounds_toArray, List.set_cons_zero, List.set_cons_succ, i64_w, i32_w]
      rfl
    refine done_ (done_of HT_.out (by kernel_rfl)) ?_
    try clear hHeld
    go_wp2
    go_ret
    exact ⟨rfl, H.below⟩

set_option maxHeartbeats 8000000 in
set_option maxRecDepth 100000 in
theorem ints_long_z (n : Int) (s : ByteArray) (w : World) (n0 : -9223372036854775808 ≤ n) (n1 : n ≤ 9223372036854775807) (hs : n = 0) (hsz : 80 < s.size) : Calls Try.prog 14 #[.int .i64 n, .string s] w (fun e W' => e = .returned (.bool true) ∧ Below w.heap.size w W') := by
  have d1 : decide (80 < (s.size : Int)) = true := decide_eq_true (by omega)
  have d2 : decide (80 < s.size) = true := decide_eq_true (by omega)
  have hu25 := Try.underlying25
  have H := Sit.start w (fun _ => False)
  have bn := Aside0.mk (bOf (r := n) (by omega))
  have i1 := Aside0.mk (show intOfI n = n from intOf_fit n0 n1)
  have f1 := Aside0.mk (show fitsI n = true from fits_fit n0 n1)
  have t1 : (n != n) = false := by simp
  have t2 : decide (0 < n) = false := decide_eq_false (by omega)
  have t3 : decide (n < 0) = false := decide_eq_false (by omega)
  have hsg := Aside0.mk (show sg n = 0 from by rw [hs]; rfl)
  obtain ⟨lo, elo⟩ : ∃ v : Int, (-9223372036854775808 : Int) = v := ⟨_, rfl⟩
  obtain ⟨hi, ehi⟩ : ∃ v : Int, (9223372036854775807 : Int) = v := ⟨_, rfl⟩
  have hlo := Aside0.mk elo
  have hhi := Aside0.mk ehi
  have blo := Aside0.mk (bOf (r := lo) (by omega))
  have bhi := Aside0.mk (bOf (r := hi) (by omega))
  clear elo ehi hs
  go_enter Try.func14, Try.ntmps14
  have st2 := trivial
  have st6 := trivial
  have st8 := trivial
  go_upto_region 4 with (first
    | (clear st2; go_at_call 22; (with_reducible refine (awake_ok _).mono ?_); rintro e wA ⟨rfl, hb⟩; replace H := H.call hb; clear hb)
    | (clear st6; go_at_call 27; (with_reducible refine (OfQ _ n n rfl (by omega) (by omega)).mono ?_); rintro e w3 ⟨A4, c5, rfl, hr, hb⟩; replace H := H.got (fresh_row hr) hb; clear hr hb)
    | (clear st8; (with_reducible refine gate_dst (N := 5) rfl ?_); refine box_event ?hg (N := 5) ?hd (cs := #[.bool false, .slice none 0 0]) (t := 25) ?hr ?_; (case hd => rfl); (case hg => rfl); (case hr => first | (go_simp; done) | (go_simp; rfl)); intro gx hg w7 hbox hb; replace H := H.newbox hg hbox hb; clear hg hbox hb; have kgx_0 : w7.cell? ⟨gx, 0, none⟩ = some (.bool false) := H.cell m0 0; have zgx_0 := H.frozen (g := gx) m0 0; have kgx_1 : w7.cell? ⟨gx, 1, none⟩ = some (.slice none 0 0) := H.cell m0 1; have zgx_1 := H.frozen (g := gx) m0 1))
  (try simp only [Act.put, List.setIfInBounds_toArray, List.set_cons_zero, List.set_cons_succ])
  replace H := ((H.setn [] 0 (.bool (ng n)) rfl).setn [] 1 (.slice A4 (ln n) c5) rfl)
  clear kgx_0 zgx_0 kgx_1 zgx_1
  generalize ((w7.setCell ⟨gx, 0, none⟩ (.bool (ng n))).setCell ⟨gx, 1, none⟩ (.slice A4 (ln n) c5)) = w9 at H ⊢
  have kgx_0 : w9.cell? ⟨gx, 0, none⟩ = some (.bool (ng n)) := H.cell m0 0
  have zgx_0 := H.frozen (g := gx) m0 0
  have kgx_1 : w9.cell? ⟨gx, 1, none⟩ = some (.slice A4 (ln n) c5) := H.cell m0 1
  have zgx_1 := H.frozen (g := gx) m0 1
  have st11 := trivial
  have st13 := trivial
  have st17 := trivial
  have st21 := trivial
  have st23 := trivial
  have st25 := trivial
  go_upto_region 13 with (first
    | (clear st11; go_at_call 29; (with_reducible refine (IntQ (H.row _ m0) n true i1.out f1.out).mono ?_); rintro e w10 ⟨rfl, hb⟩; replace H := H.call hb; clear hb; clear kgx_0 zgx_0 kgx_1 zgx_1; have kgx_0 : w10.cell? ⟨gx, 0, none⟩ = some (.bool (ng n)) := H.cell m0 0; have zgx_0 := H.frozen (g := gx) m0 0; have kgx_1 : w10.cell? ⟨gx, 1, none⟩ = some (.slice A4 (ln n) c5) := H.cell m0 1; have zgx_1 := H.frozen (g := gx) m0 1)
    | (clear st13; go_at_call 25; (with_reducible refine (SignQ _ _ _ (lim bn.out (by decide)) 0 hsg.out).mono ?_); rintro e w12 ⟨rfl, hb⟩; replace H := H.call hb; clear hb; clear kgx_0 zgx_0 kgx_1 zgx_1; have kgx_0 : w12.cell? ⟨gx, 0, none⟩ = some (.bool (ng n)) := H.cell m0 0; have zgx_0 := H.frozen (g := gx) m0 0; have kgx_1 : w12.cell? ⟨gx, 1, none⟩ = some (.slice A4 (ln n) c5) := H.cell m0 1; have zgx_1 := H.frozen (g := gx) m0 1)
    | (clear st17; go_at_call 27; (with_reducible refine (OfQ _ (-9223372036854775808) lo hlo.out (by omega) (by omega)).mono ?_); rintro e w14 ⟨A15, c16, rfl, hr, hb⟩; replace H := H.got (fresh_row hr) hb; clear hr hb; clear kgx_0 zgx_0 kgx_1 zgx_1; have kgx_0 : w14.cell? ⟨gx, 0, none⟩ = some (.bool (ng n)) := H.cell m0 0; have zgx_0 := H.frozen (g := gx) m0 0; have kgx_1 : w14.cell? ⟨gx, 1, none⟩ = some (.slice A4 (ln n) c5) := H.cell m0 1; have zgx_1 := H.frozen (g := gx) m0 1)
    | (clear st21; go_at_call 27; (with_reducible refine (OfQ _ 9223372036854775807 hi hhi.out (by omega) (by omega)).mono ?_); rintro e w18 ⟨A19, c20, rfl, hr, hb⟩; replace H := H.got (fresh_row hr) hb; clear hr hb; clear kgx_0 zgx_0 kgx_1 zgx_1; have kgx_0 : w18.cell? ⟨gx, 0, none⟩ = some (.bool (ng n)) := H.cell m0 0; have zgx_0 := H.frozen (g := gx) m0 0; have kgx_1 : w18.cell? ⟨gx, 1, none⟩ = some (.slice A4 (ln n) c5) := H.cell m0 1; have zgx_1 := H.frozen (g := gx) m0 1)
    | (clear st23; (with_reducible refine gate_dst (N := 9) rfl ?_); refine box_event ?hg (N := 9) ?hd (cs := #[.bool false, .slice none 0 0]) (t := 25) ?hr ?_; (case hd => rfl); (case hg => rfl); (case hr => first | (go_simp; done) | (go_simp; rfl)); intro gl hg w22 hbox hb; replace H := H.newbox hg hbox hb; clear hg hbox hb; clear kgx_0 zgx_0 kgx_1 zgx_1; have kgl_0 : w22.cell? ⟨gl, 0, none⟩ = some (.bool false) := H.cell m0 0; have zgl_0 := H.frozen (g := gl) m0 0; have kgl_1 : w22.cell? ⟨gl, 1, none⟩ = some (.slice none 0 0) := H.cell m0 1; have zgl_1 := H.frozen (g := gl) m0 1; have kgx_0 : w22.cell? ⟨gx, 0, none⟩ = some (.bool (ng n)) := H.cell m1 0; have zgx_0 := H.frozen (g := gx) m1 0; have kgx_1 : w22.cell? ⟨gx, 1, none⟩ = some (.slice A4 (ln n) c5) := H.cell m1 1; have zgx_1 := H.frozen (g := gx) m1 1; have ne_gl_gx := H.ne (g := gl) (g' := gx) 0 1 rfl rfl (by decide); have ne_gx_gl := ne_gl_gx.symm)
    | (clear st25; (with_reducible refine gate_dst (N := 10) rfl ?_); refine box_event ?hg (N := 10) ?hd (cs := #[.bool false, .slice none 0 0]) (t := 25) ?hr ?_; (case hd => rfl); (case hg => rfl); (case hr => first | (go_simp; done) | (go_simp; rfl)); intro gh hg w24 hbox hb; replace H := H.newbox hg hbox hb; clear hg hbox hb; clear kgl_0 zgl_0 kgl_1 zgl_1 kgx_0 zgx_0 kgx_1 zgx_1; have kgh_0 : w24.cell? ⟨gh, 0, none⟩ = some (.bool false) := H.cell m0 0; have zgh_0 := H.frozen (g := gh) m0 0; have kgh_1 : w24.cell? ⟨gh, 1, none⟩ = some (.slice none 0 0) := H.cell m0 1; have zgh_1 := H.frozen (g := gh) m0 1; have kgl_0 : w24.cell? ⟨gl, 0, none⟩ = some (.bool false) := H.cell m1 0; have zgl_0 := H.frozen (g := gl) m1 0; have kgl_1 : w24.cell? ⟨gl, 1, none⟩ = some (.slice none 0 0) := H.cell m1 1; have zgl_1 := H.frozen (g := gl) m1 1; have kgx_0 : w24.cell? ⟨gx, 0, none⟩ = some (.bool (ng n)) := H.cell m2 0; have zgx_0 := H.frozen (g := gx) m2 0; have kgx_1 : w24.cell? ⟨gx, 1, none⟩ = some (.slice A4 (ln n) c5) := H.cell m2 1; have zgx_1 := H.frozen (g := gx) m2 1; have ne_gh_gl := H.ne (g := gh) (g' := gl) 0 1 rfl rfl (by decide); have ne_gl_gh := ne_gh_gl.symm; have ne_gh_gx := H.ne (g := gh) (g' := gx) 0 2 rfl rfl (by decide); have ne_gx_gh := ne_gh_gx.symm))
  (try simp only [Act.put, List.setIfInBounds_toArray, List.set_cons_zero, List.set_cons_succ])
  replace H := ((((H.setn [_] 0 (.bool (ng lo)) rfl).setn [_] 1 (.slice A15 (ln lo) c16) rfl).setn [] 0 (.bool (ng hi)) rfl).setn [] 1 (.slice A19 (ln hi) c20) rfl)
  clear kgh_0 zgh_0 kgh_1 zgh_1 kgl_0 zgl_0 kgl_1 zgl_1 kgx_0 zgx_0 kgx_1 zgx_1
  generalize ((((w24.setCell ⟨gl, 0, none⟩ (.bool (ng lo))).setCell ⟨gl, 1, none⟩ (.slice A15 (ln lo) c16)).setCell ⟨gh, 0, none⟩ (.bool (ng hi))).setCell ⟨gh, 1, none⟩ (.slice A19 (ln hi) c20)) = w26 at H ⊢
  have kgh_0 : w26.cell? ⟨gh, 0, none⟩ = some (.bool (ng hi)) := H.cell m0 0
  have zgh_0 := H.frozen (g := gh) m0 0
  have kgh_1 : w26.cell? ⟨gh, 1, none⟩ = some (.slice A19 (ln hi) c20) := H.cell m0 1
  have zgh_1 := H.frozen (g := gh) m0 1
  have kgl_0 : w26.cell? ⟨gl, 0, none⟩ = some (.bool (ng lo)) := H.cell m1 0
  have zgl_0 := H.frozen (g := gl) m1 0
  have kgl_1 : w26.cell? ⟨gl, 1, none⟩ = some (.slice A15 (ln lo) c16) := H.cell m1 1
  have zgl_1 := H.frozen (g := gl) m1 1
  have kgx_0 : w26.cell? ⟨gx, 0, none⟩ = some (.bool (ng n)) := H.cell m2 0
  have zgx_0 := H.frozen (g := gx) m2 0
  have kgx_1 : w26.cell? ⟨gx, 1, none⟩ = some (.slice A4 (ln n) c5) := H.cell m2 1
  have zgx_1 := H.frozen (g := gx) m2 1
  go_wp2
  go_ret
  exact ⟨rfl, H.below⟩

set_option maxHeartbeats 8000000 in
set_option maxRecDepth 100000 in
theorem ints_err_z (n : Int) (s : ByteArray) (w : World) (n0 : -9223372036854775808 ≤ n) (n1 : n ≤ 9223372036854775807) (hs : n = 0) (hsz : s.size ≤ 80) (y e : Int) (hy : Aside0 (pr s = (y, e))) (he : (e != 0) = true) (he2 : (e == 0) = false) : Calls Try.prog 14 #[.int .i64 n, .string s] w (fun e W' => e = .returned (.bool true) ∧ Below w.heap.size w W') := by
  have d1 : decide (80 < (s.size : Int)) = false := decide_eq_false (by omega)
  have d2 : decide (80 < s.size) = false := decide_eq_false (by omega)
  have bY := Aside0.mk (pr_small hy.out hsz)
  have hu25 := Try.underlying25
  have H := Sit.start w (fun _ => False)
  have bn := Aside0.mk (bOf (r := n) (by omega))
  have i1 := Aside0.mk (show intOfI n = n from intOf_fit n0 n1)
  have f1 := Aside0.mk (show fitsI n = true from fits_fit n0 n1)
  have t1 : (n != n) = false := by simp
  have t2 : decide (0 < n) = false := decide_eq_false (by omega)
  have t3 : decide (n < 0) = false := decide_eq_false (by omega)
  have hsg := Aside0.mk (show sg n = 0 from by rw [hs]; rfl)
  obtain ⟨lo, elo⟩ : ∃ v : Int, (-9223372036854775808 : Int) = v := ⟨_, rfl⟩
  obtain ⟨hi, ehi⟩ : ∃ v : Int, (9223372036854775807 : Int) = v := ⟨_, rfl⟩
  have hlo := Aside0.mk elo
  have hhi := Aside0.mk ehi
  have blo := Aside0.mk (bOf (r := lo) (by omega))
  have bhi := Aside0.mk (bOf (r := hi) (by omega))
  clear elo ehi hs
  go_enter Try.func14, Try.ntmps14
  have st2 := trivial
  have st6 := trivial
  have st8 := trivial
  go_upto_region 4 with (first
    | (clear st2; go_at_call 22; (with_reducible refine (awake_ok _).mono ?_); rintro e wA ⟨rfl, hb⟩; replace H := H.call hb; clear hb)
    | (clear st6; go_at_call 27; (with_reducible refine (OfQ _ n n rfl (by omega) (by omega)).mono ?_); rintro e w3 ⟨A4, c5, rfl, hr, hb⟩; replace H := H.got (fresh_row hr) hb; clear hr hb)
    | (clear st8; (with_reducible refine gate_dst (N := 5) rfl ?_); refine box_event ?hg (N := 5) ?hd (cs := #[.bool false, .slice none 0 0]) (t := 25) ?hr ?_; (case hd => rfl); (case hg => rfl); (case hr => first | (go_simp; done) | (go_simp; rfl)); intro gx hg w7 hbox hb; replace H := H.newbox hg hbox hb; clear hg hbox hb; have kgx_0 : w7.cell? ⟨gx, 0, none⟩ = some (.bool false) := H.cell m0 0; have zgx_0 := H.frozen (g := gx) m0 0; have kgx_1 : w7.cell? ⟨gx, 1, none⟩ = some (.slice none 0 0) := H.cell m0 1; have zgx_1 := H.frozen (g := gx) m0 1))
  (try simp only [Act.put, List.setIfInBounds_toArray, List.set_cons_zero, List.set_cons_succ])
  replace H := ((H.setn [] 0 (.bool (ng n)) rfl).setn [] 1 (.slice A4 (ln n) c5) rfl)
  clear kgx_0 zgx_0 kgx_1 zgx_1
  generalize ((w7.setCell ⟨gx, 0, none⟩ (.bool (ng n))).setCell ⟨gx, 1, none⟩ (.slice A4 (ln n) c5)) = w9 at H ⊢
  have kgx_0 : w9.cell? ⟨gx, 0, none⟩ = some (.bool (ng n)) := H.cell m0 0
  have zgx_0 := H.frozen (g := gx) m0 0
  have kgx_1 : w9.cell? ⟨gx, 1, none⟩ = some (.slice A4 (ln n) c5) := H.cell m0 1
  have zgx_1 := H.frozen (g := gx) m0 1
  have st11 := trivial
  have st13 := trivial
  have st17 := trivial
  have st21 := trivial
  have st23 := trivial
  have st25 := trivial
  go_upto_region 13 with (first
    | (clear st11; go_at_call 29; (with_reducible refine (IntQ (H.row _ m0) n true i1.out f1.out).mono ?_); rintro e w10 ⟨rfl, hb⟩; replace H := H.call hb; clear hb; clear kgx_0 zgx_0 kgx_1 zgx_1; have kgx_0 : w10.cell? ⟨gx, 0, none⟩ = some (.bool (ng n)) := H.cell m0 0; have zgx_0 := H.frozen (g := gx) m0 0; have kgx_1 : w10.cell? ⟨gx, 1, none⟩ = some (.slice A4 (ln n) c5) := H.cell m0 1; have zgx_1 := H.frozen (g := gx) m0 1)
    | (clear st13; go_at_call 25; (with_reducible refine (SignQ _ _ _ (lim bn.out (by decide)) 0 hsg.out).mono ?_); rintro e w12 ⟨rfl, hb⟩; replace H := H.call hb; clear hb; clear kgx_0 zgx_0 kgx_1 zgx_1; have kgx_0 : w12.cell? ⟨gx, 0, none⟩ = some (.bool (ng n)) := H.cell m0 0; have zgx_0 := H.frozen (g := gx) m0 0; have kgx_1 : w12.cell? ⟨gx, 1, none⟩ = some (.slice A4 (ln n) c5) := H.cell m0 1; have zgx_1 := H.frozen (g := gx) m0 1)
    | (clear st17; go_at_call 27; (with_reducible refine (OfQ _ (-9223372036854775808) lo hlo.out (by omega) (by omega)).mono ?_); rintro e w14 ⟨A15, c16, rfl, hr, hb⟩; replace H := H.got (fresh_row hr) hb; clear hr hb; clear kgx_0 zgx_0 kgx_1 zgx_1; have kgx_0 : w14.cell? ⟨gx, 0, none⟩ = some (.bool (ng n)) := H.cell m0 0; have zgx_0 := H.frozen (g := gx) m0 0; have kgx_1 : w14.cell? ⟨gx, 1, none⟩ = some (.slice A4 (ln n) c5) := H.cell m0 1; have zgx_1 := H.frozen (g := gx) m0 1)
    | (clear st21; go_at_call 27; (with_reducible refine (OfQ _ 9223372036854775807 hi hhi.out (by omega) (by omega)).mono ?_); rintro e w18 ⟨A19, c20, rfl, hr, hb⟩; replace H := H.got (fresh_row hr) hb; clear hr hb; clear kgx_0 zgx_0 kgx_1 zgx_1; have kgx_0 : w18.cell? ⟨gx, 0, none⟩ = some (.bool (ng n)) := H.cell m0 0; have zgx_0 := H.frozen (g := gx) m0 0; have kgx_1 : w18.cell? ⟨gx, 1, none⟩ = some (.slice A4 (ln n) c5) := H.cell m0 1; have zgx_1 := H.frozen (g := gx) m0 1)
    | (clear st23; (with_reducible refine gate_dst (N := 9) rfl ?_); refine box_event ?hg (N := 9) ?hd (cs := #[.bool false, .slice none 0 0]) (t := 25) ?hr ?_; (case hd => rfl); (case hg => rfl); (case hr => first | (go_simp; done) | (go_simp; rfl)); intro gl hg w22 hbox hb; replace H := H.newbox hg hbox hb; clear hg hbox hb; clear kgx_0 zgx_0 kgx_1 zgx_1; have kgl_0 : w22.cell? ⟨gl, 0, none⟩ = some (.bool false) := H.cell m0 0; have zgl_0 := H.frozen (g := gl) m0 0; have kgl_1 : w22.cell? ⟨gl, 1, none⟩ = some (.slice none 0 0) := H.cell m0 1; have zgl_1 := H.frozen (g := gl) m0 1; have kgx_0 : w22.cell? ⟨gx, 0, none⟩ = some (.bool (ng n)) := H.cell m1 0; have zgx_0 := H.frozen (g := gx) m1 0; have kgx_1 : w22.cell? ⟨gx, 1, none⟩ = some (.slice A4 (ln n) c5) := H.cell m1 1; have zgx_1 := H.frozen (g := gx) m1 1; have ne_gl_gx := H.ne (g := gl) (g' := gx) 0 1 rfl rfl (by decide); have ne_gx_gl := ne_gl_gx.symm)
    | (clear st25; (with_reducible refine gate_dst (N := 10) rfl ?_); refine box_event ?hg (N := 10) ?hd (cs := #[.bool false, .slice none 0 0]) (t := 25) ?hr ?_; (case hd => rfl); (case hg => rfl); (case hr => first | (go_simp; done) | (go_simp; rfl)); intro gh hg w24 hbox hb; replace H := H.newbox hg hbox hb; clear hg hbox hb; clear kgl_0 zgl_0 kgl_1 zgl_1 kgx_0 zgx_0 kgx_1 zgx_1; have kgh_0 : w24.cell? ⟨gh, 0, none⟩ = some (.bool false) := H.cell m0 0; have zgh_0 := H.frozen (g := gh) m0 0; have kgh_1 : w24.cell? ⟨gh, 1, none⟩ = some (.slice none 0 0) := H.cell m0 1; have zgh_1 := H.frozen (g := gh) m0 1; have kgl_0 : w24.cell? ⟨gl, 0, none⟩ = some (.bool false) := H.cell m1 0; have zgl_0 := H.frozen (g := gl) m1 0; have kgl_1 : w24.cell? ⟨gl, 1, none⟩ = some (.slice none 0 0) := H.cell m1 1; have zgl_1 := H.frozen (g := gl) m1 1; have kgx_0 : w24.cell? ⟨gx, 0, none⟩ = some (.bool (ng n)) := H.cell m2 0; have zgx_0 := H.frozen (g := gx) m2 0; have kgx_1 : w24.cell? ⟨gx, 1, none⟩ = some (.slice A4 (ln n) c5) := H.cell m2 1; have zgx_1 := H.frozen (g := gx) m2 1; have ne_gh_gl := H.ne (g := gh) (g' := gl) 0 1 rfl rfl (by decide); have ne_gl_gh := ne_gh_gl.symm; have ne_gh_gx := H.ne (g := gh) (g' := gx) 0 2 rfl rfl (by decide); have ne_gx_gh := ne_gh_gx.symm))
  (try simp only [Act.put, List.setIfInBounds_toArray, List.set_cons_zero, List.set_cons_succ])
  replace H := ((((H.setn [_] 0 (.bool (ng lo)) rfl).setn [_] 1 (.slice A15 (ln lo) c16) rfl).setn [] 0 (.bool (ng hi)) rfl).setn [] 1 (.slice A19 (ln hi) c20) rfl)
  clear kgh_0 zgh_0 kgh_1 zgh_1 kgl_0 zgl_0 kgl_1 zgl_1 kgx_0 zgx_0 kgx_1 zgx_1
  generalize ((((w24.setCell ⟨gl, 0, none⟩ (.bool (ng lo))).setCell ⟨gl, 1, none⟩ (.slice A15 (ln lo) c16)).setCell ⟨gh, 0, none⟩ (.bool (ng hi))).setCell ⟨gh, 1, none⟩ (.slice A19 (ln hi) c20)) = w26 at H ⊢
  have kgh_0 : w26.cell? ⟨gh, 0, none⟩ = some (.bool (ng hi)) := H.cell m0 0
  have zgh_0 := H.frozen (g := gh) m0 0
  have kgh_1 : w26.cell? ⟨gh, 1, none⟩ = some (.slice A19 (ln hi) c20) := H.cell m0 1
  have zgh_1 := H.frozen (g := gh) m0 1
  have kgl_0 : w26.cell? ⟨gl, 0, none⟩ = some (.bool (ng lo)) := H.cell m1 0
  have zgl_0 := H.frozen (g := gl) m1 0
  have kgl_1 : w26.cell? ⟨gl, 1, none⟩ = some (.slice A15 (ln lo) c16) := H.cell m1 1
  have zgl_1 := H.frozen (g := gl) m1 1
  have kgx_0 : w26.cell? ⟨gx, 0, none⟩ = some (.bool (ng n)) := H.cell m2 0
  have zgx_0 := H.frozen (g := gx) m2 0
  have kgx_1 : w26.cell? ⟨gx, 1, none⟩ = some (.slice A4 (ln n) c5) := H.cell m2 1
  have zgx_1 := H.frozen (g := gx) m2 1
  have st30 := trivial
  have st32 := trivial
  go_upto_region 16 with (first
    | (clear st30; go_at_call 23; (with_reducible refine (ParseQ s _ y e hy.out).mono ?_); rintro e w27 ⟨A28, c29, rfl, hr, hb⟩; replace H := H.got (fresh_row hr) hb; clear hr hb; clear kgh_0 zgh_0 kgh_1 zgh_1 kgl_0 zgl_0 kgl_1 zgl_1 kgx_0 zgx_0 kgx_1 zgx_1; have kgh_0 : w27.cell? ⟨gh, 0, none⟩ = some (.bool (ng hi)) := H.cell m0 0; have zgh_0 := H.frozen (g := gh) m0 0; have kgh_1 : w27.cell? ⟨gh, 1, none⟩ = some (.slice A19 (ln hi) c20) := H.cell m0 1; have zgh_1 := H.frozen (g := gh) m0 1; have kgl_0 : w27.cell? ⟨gl, 0, none⟩ = some (.bool (ng lo)) := H.cell m1 0; have zgl_0 := H.frozen (g := gl) m1 0; have kgl_1 : w27.cell? ⟨gl, 1, none⟩ = some (.slice A15 (ln lo) c16) := H.cell m1 1; have zgl_1 := H.frozen (g := gl) m1 1; have kgx_0 : w27.cell? ⟨gx, 0, none⟩ = some (.bool (ng n)) := H.cell m2 0; have zgx_0 := H.frozen (g := gx) m2 0; have kgx_1 : w27.cell? ⟨gx, 1, none⟩ = some (.slice A4 (ln n) c5) := H.cell m2 1; have zgx_1 := H.frozen (g := gx) m2 1)
    | (clear st32; (with_reducible refine gate_dst (N := 11) rfl ?_); refine box_event ?hg (N := 11) ?hd (cs := #[.bool false, .slice none 0 0]) (t := 25) ?hr ?_; (case hd => rfl); (case hg => rfl); (case hr => first | (go_simp; done) | (go_simp; rfl)); intro gy hg w31 hbox hb; replace H := H.newbox hg hbox hb; clear hg hbox hb; clear kgh_0 zgh_0 kgh_1 zgh_1 kgl_0 zgl_0 kgl_1 zgl_1 kgx_0 zgx_0 kgx_1 zgx_1; have kgy_0 : w31.cell? ⟨gy, 0, none⟩ = some (.bool false) := H.cell m0 0; have zgy_0 := H.frozen (g := gy) m0 0; have kgy_1 : w31.cell? ⟨gy, 1, none⟩ = some (.slice none 0 0) := H.cell m0 1; have zgy_1 := H.frozen (g := gy) m0 1; have kgh_0 : w31.cell? ⟨gh, 0, none⟩ = some (.bool (ng hi)) := H.cell m1 0; have zgh_0 := H.frozen (g := gh) m1 0; have kgh_1 : w31.cell? ⟨gh, 1, none⟩ = some (.slice A19 (ln hi) c20) := H.cell m1 1; have zgh_1 := H.frozen (g := gh) m1 1; have kgl_0 : w31.cell? ⟨gl, 0, none⟩ = some (.bool (ng lo)) := H.cell m2 0; have zgl_0 := H.frozen (g := gl) m2 0; have kgl_1 : w31.cell? ⟨gl, 1, none⟩ = some (.slice A15 (ln lo) c16) := H.cell m2 1; have zgl_1 := H.frozen (g := gl) m2 1; have kgx_0 : w31.cell? ⟨gx, 0, none⟩ = some (.bool (ng n)) := H.cell m3 0; have zgx_0 := H.frozen (g := gx) m3 0; have kgx_1 : w31.cell? ⟨gx, 1, none⟩ = some (.slice A4 (ln n) c5) := H.cell m3 1; have zgx_1 := H.frozen (g := gx) m3 1; have ne_gy_gh := H.ne (g := gy) (g' := gh) 0 1 rfl rfl (by decide); have ne_gh_gy := ne_gy_gh.symm; have ne_gy_gl := H.ne (g := gy) (g' := gl) 0 2 rfl rfl (by decide); have ne_gl_gy := ne_gy_gl.symm; have ne_gy_gx := H.ne (g := gy) (g' := gx) 0 3 rfl rfl (by decide); have ne_gx_gy := ne_gy_gx.symm))
  (try simp only [Act.put, List.setIfInBounds_toArray, List.set_cons_zero, List.set_cons_succ])
  replace H := ((H.setn [] 0 (.bool (ng y)) rfl).setn [] 1 (.slice A28 (ln y) c29) rfl)
  clear kgy_0 zgy_0 kgy_1 zgy_1 kgh_0 zgh_0 kgh_1 zgh_1 kgl_0 zgl_0 kgl_1 zgl_1 kgx_0 zgx_0 kgx_1 zgx_1
  generalize ((w31.setCell ⟨gy, 0, none⟩ (.bool (ng y))).setCell ⟨gy, 1, none⟩ (.slice A28 (ln y) c29)) = w33 at H ⊢
  have kgy_0 : w33.cell? ⟨gy, 0, none⟩ = some (.bool (ng y)) := H.cell m0 0
  have zgy_0 := H.frozen (g := gy) m0 0
  have kgy_1 : w33.cell? ⟨gy, 1, none⟩ = some (.slice A28 (ln y) c29) := H.cell m0 1
  have zgy_1 := H.frozen (g := gy) m0 1
  have kgh_0 : w33.cell? ⟨gh, 0, none⟩ = some (.bool (ng hi)) := H.cell m1 0
  have zgh_0 := H.frozen (g := gh) m1 0
  have kgh_1 : w33.cell? ⟨gh, 1, none⟩ = some (.slice A19 (ln hi) c20) := H.cell m1 1
  have zgh_1 := H.frozen (g := gh) m1 1
  have kgl_0 : w33.cell? ⟨gl, 0, none⟩ = some (.bool (ng lo)) := H.cell m2 0
  have zgl_0 := H.frozen (g := gl) m2 0
  have kgl_1 : w33.cell? ⟨gl, 1, none⟩ = some (.slice A15 (ln lo) c16) := H.cell m2 1
  have zgl_1 := H.frozen (g := gl) m2 1
  have kgx_0 : w33.cell? ⟨gx, 0, none⟩ = some (.bool (ng n)) := H.cell m3 0
  have zgx_0 := H.frozen (g := gx) m3 0
  have kgx_1 : w33.cell? ⟨gx, 1, none⟩ = some (.slice A4 (ln n) c5) := H.cell m3 1
  have zgx_1 := H.frozen (g := gx) m3 1
  go_wp2
  go_ret
  exact ⟨rfl, H.below⟩


set_option maxHeartbeats 8000000 in
set_option maxRecDepth 100000 in
theorem ints_fit_z (n : Int) (s : ByteArray) (w : World) (n0 : -9223372036854775808 ≤ n) (n1 : n ≤ 9223372036854775807) (hs : n = 0) (hsz : s.size ≤ 80) (y : Int) (hy : Aside0 (pr s = (y, 0))) (hF : fitsI y = true) : Calls Try.prog 14 #[.int .i64 n, .string s] w (fun e W' => e = .returned (.bool true) ∧ Below w.heap.size w W') := by
  have d1 : decide (80 < (s.size : Int)) = false := decide_eq_false (by omega)
  have d2 : decide (80 < s.size) = false := decide_eq_false (by omega)
  have bY := Aside0.mk (pr_small hy.out hsz)
  obtain ⟨k1, ek1⟩ : ∃ v, cmp3 y (-9223372036854775808) = v := ⟨_, rfl⟩
  obtain ⟨k2, ek2⟩ : ∃ v, cmp3 y 9223372036854775807 = v := ⟨_, rfl⟩
  have hf := fits_iff y
  rw [ek1, ek2] at hf
  have hk1 := Aside0.mk ek1
  have hk2 := Aside0.mk ek2
  clear ek1 ek2
  have hfit := Aside0.mk hF
  rw [hF] at hf
  simp only [ge_iff_le, Bool.and_eq_true, decide_eq_true_eq, Bool.true_eq] at hf
  have u1 : decide (0 ≤ k1) = true := decide_eq_true hf.1
  have u2 : decide (k2 ≤ 0) = true := decide_eq_true hf.2
  have ry := of_decide_eq_true hF
  have iy := Aside0.mk (show intOfI y = y from intOf_fit ry.1 ry.2)
  obtain ⟨y2, ey2⟩ : ∃ v : Int, y = v := ⟨_, rfl⟩
  have hy2 := Aside0.mk ey2
  have by2 := Aside0.mk (show ln y2 ≤ 10 by rw [← ey2]; exact bY.out)
  have hc := Aside0.mk (show cmp3 y2 y = 0 from cmp3_eq ey2.symm)
  clear ey2
  obtain ⟨ry1, ry2⟩ := ry
  clear hf hF
  have hu25 := Try.underlying25
  have H := Sit.start w (fun _ => False)
  have bn := Aside0.mk (bOf (r := n) (by omega))
  have i1 := Aside0.mk (show intOfI n = n from intOf_fit n0 n1)
  have f1 := Aside0.mk (show fitsI n = true from fits_fit n0 n1)
  have t1 : (n != n) = false := by simp
  have t2 : decide (0 < n) = false := decide_eq_false (by omega)
  have t3 : decide (n < 0) = false := decide_eq_false (by omega)
  have hsg := Aside0.mk (show sg n = 0 from by rw [hs]; rfl)
  obtain ⟨lo, elo⟩ : ∃ v : Int, (-9223372036854775808 : Int) = v := ⟨_, rfl⟩
  obtain ⟨hi, ehi⟩ : ∃ v : Int, (9223372036854775807 : Int) = v := ⟨_, rfl⟩
  have hlo := Aside0.mk elo
  have hhi := Aside0.mk ehi
  have blo := Aside0.mk (bOf (r := lo) (by omega))
  have bhi := Aside0.mk (bOf (r := hi) (by omega))
  clear elo ehi hs
  go_enter Try.func14, Try.ntmps14
  have st2 := trivial
  have st6 := trivial
  have st8 := trivial
  go_upto_region 4 with (first
    | (clear st2; go_at_call 22; (with_reducible refine (awake_ok _).mono ?_); rintro e wA ⟨rfl, hb⟩; replace H := H.call hb; clear hb)
    | (clear st6; go_at_call 27; (with_reducible refine (OfQ _ n n rfl (by omega) (by omega)).mono ?_); rintro e w3 ⟨A4, c5, rfl, hr, hb⟩; replace H := H.got (fresh_row hr) hb; clear hr hb)
    | (clear st8; (with_reducible refine gate_dst (N := 5) rfl ?_); refine box_event ?hg (N := 5) ?hd (cs := #[.bool false, .slice none 0 0]) (t := 25) ?hr ?_; (case hd => rfl); (case hg => rfl); (case hr => first | (go_simp; done) | (go_simp; rfl)); intro gx hg w7 hbox hb; replace H := H.newbox hg hbox hb; clear hg hbox hb; have kgx_0 : w7.cell? ⟨gx, 0, none⟩ = some (.bool false) := H.cell m0 0; have zgx_0 := H.frozen (g := gx) m0 0; have kgx_1 : w7.cell? ⟨gx, 1, none⟩ = some (.slice none 0 0) := H.cell m0 1; have zgx_1 := H.frozen (g := gx) m0 1))
  (try simp only [Act.put, List.setIfInBounds_toArray, List.set_cons_zero, List.set_cons_succ])
  replace H := ((H.setn [] 0 (.bool (ng n)) rfl).setn [] 1 (.slice A4 (ln n) c5) rfl)
  clear kgx_0 zgx_0 kgx_1 zgx_1
  generalize ((w7.setCell ⟨gx, 0, none⟩ (.bool (ng n))).setCell ⟨gx, 1, none⟩ (.slice A4 (ln n) c5)) = w9 at H ⊢
  have kgx_0 : w9.cell? ⟨gx, 0, none⟩ = some (.bool (ng n)) := H.cell m0 0
  have zgx_0 := H.frozen (g := gx) m0 0
  have kgx_1 : w9.cell? ⟨gx, 1, none⟩ = some (.slice A4 (ln n) c5) := H.cell m0 1
  have zgx_1 := H.frozen (g := gx) m0 1
  have st11 := trivial
  have st13 := trivial
  have st17 := trivial
  have st21 := trivial
  have st23 := trivial
  have st25 := trivial
  go_upto_region 13 with (first
    | (clear st11; go_at_call 29; (with_reducible refine (IntQ (H.row _ m0) n true i1.out f1.out).mono ?_); rintro e w10 ⟨rfl, hb⟩; replace H := H.call hb; clear hb; clear kgx_0 zgx_0 kgx_1 zgx_1; have kgx_0 : w10.cell? ⟨gx, 0, none⟩ = some (.bool (ng n)) := H.cell m0 0; have zgx_0 := H.frozen (g := gx) m0 0; have kgx_1 : w10.cell? ⟨gx, 1, none⟩ = some (.slice A4 (ln n) c5) := H.cell m0 1; have zgx_1 := H.frozen (g := gx) m0 1)
    | (clear st13; go_at_call 25; (with_reducible refine (SignQ _ _ _ (lim bn.out (by decide)) 0 hsg.out).mono ?_); rintro e w12 ⟨rfl, hb⟩; replace H := H.call hb; clear hb; clear kgx_0 zgx_0 kgx_1 zgx_1; have kgx_0 : w12.cell? ⟨gx, 0, none⟩ = some (.bool (ng n)) := H.cell m0 0; have zgx_0 := H.frozen (g := gx) m0 0; have kgx_1 : w12.cell? ⟨gx, 1, none⟩ = some (.slice A4 (ln n) c5) := H.cell m0 1; have zgx_1 := H.frozen (g := gx) m0 1)
    | (clear st17; go_at_call 27; (with_reducible refine (OfQ _ (-9223372036854775808) lo hlo.out (by omega) (by omega)).mono ?_); rintro e w14 ⟨A15, c16, rfl, hr, hb⟩; replace H := H.got (fresh_row hr) hb; clear hr hb; clear kgx_0 zgx_0 kgx_1 zgx_1; have kgx_0 : w14.cell? ⟨gx, 0, none⟩ = some (.bool (ng n)) := H.cell m0 0; have zgx_0 := H.frozen (g := gx) m0 0; have kgx_1 : w14.cell? ⟨gx, 1, none⟩ = some (.slice A4 (ln n) c5) := H.cell m0 1; have zgx_1 := H.frozen (g := gx) m0 1)
    | (clear st21; go_at_call 27; (with_reducible refine (OfQ _ 9223372036854775807 hi hhi.out (by omega) (by omega)).mono ?_); rintro e w18 ⟨A19, c20, rfl, hr, hb⟩; replace H := H.got (fresh_row hr) hb; clear hr hb; clear kgx_0 zgx_0 kgx_1 zgx_1; have kgx_0 : w18.cell? ⟨gx, 0, none⟩ = some (.bool (ng n)) := H.cell m0 0; have zgx_0 := H.frozen (g := gx) m0 0; have kgx_1 : w18.cell? ⟨gx, 1, none⟩ = some (.slice A4 (ln n) c5) := H.cell m0 1; have zgx_1 := H.frozen (g := gx) m0 1)
    | (clear st23; (with_reducible refine gate_dst (N := 9) rfl ?_); refine box_event ?hg (N := 9) ?hd (cs := #[.bool false, .slice none 0 0]) (t := 25) ?hr ?_; (case hd => rfl); (case hg => rfl); (case hr => first | (go_simp; done) | (go_simp; rfl)); intro gl hg w22 hbox hb; replace H := H.newbox hg hbox hb; clear hg hbox hb; clear kgx_0 zgx_0 kgx_1 zgx_1; have kgl_0 : w22.cell? ⟨gl, 0, none⟩ = some (.bool false) := H.cell m0 0; have zgl_0 := H.frozen (g := gl) m0 0; have kgl_1 : w22.cell? ⟨gl, 1, none⟩ = some (.slice none 0 0) := H.cell m0 1; have zgl_1 := H.frozen (g := gl) m0 1; have kgx_0 : w22.cell? ⟨gx, 0, none⟩ = some (.bool (ng n)) := H.cell m1 0; have zgx_0 := H.frozen (g := gx) m1 0; have kgx_1 : w22.cell? ⟨gx, 1, none⟩ = some (.slice A4 (ln n) c5) := H.cell m1 1; have zgx_1 := H.frozen (g := gx) m1 1; have ne_gl_gx := H.ne (g := gl) (g' := gx) 0 1 rfl rfl (by decide); have ne_gx_gl := ne_gl_gx.symm)
    | (clear st25; (with_reducible refine gate_dst (N := 10) rfl ?_); refine box_event ?hg (N := 10) ?hd (cs := #[.bool false, .slice none 0 0]) (t := 25) ?hr ?_; (case hd => rfl); (case hg => rfl); (case hr => first | (go_simp; done) | (go_simp; rfl)); intro gh hg w24 hbox hb; replace H := H.newbox hg hbox hb; clear hg hbox hb; clear kgl_0 zgl_0 kgl_1 zgl_1 kgx_0 zgx_0 kgx_1 zgx_1; have kgh_0 : w24.cell? ⟨gh, 0, none⟩ = some (.bool false) := H.cell m0 0; have zgh_0 := H.frozen (g := gh) m0 0; have kgh_1 : w24.cell? ⟨gh, 1, none⟩ = some (.slice none 0 0) := H.cell m0 1; have zgh_1 := H.frozen (g := gh) m0 1; have kgl_0 : w24.cell? ⟨gl, 0, none⟩ = some (.bool false) := H.cell m1 0; have zgl_0 := H.frozen (g := gl) m1 0; have kgl_1 : w24.cell? ⟨gl, 1, none⟩ = some (.slice none 0 0) := H.cell m1 1; have zgl_1 := H.frozen (g := gl) m1 1; have kgx_0 : w24.cell? ⟨gx, 0, none⟩ = some (.bool (ng n)) := H.cell m2 0; have zgx_0 := H.frozen (g := gx) m2 0; have kgx_1 : w24.cell? ⟨gx, 1, none⟩ = some (.slice A4 (ln n) c5) := H.cell m2 1; have zgx_1 := H.frozen (g := gx) m2 1; have ne_gh_gl := H.ne (g := gh) (g' := gl) 0 1 rfl rfl (by decide); have ne_gl_gh := ne_gh_gl.symm; have ne_gh_gx := H.ne (g := gh) (g' := gx) 0 2 rfl rfl (by decide); have ne_gx_gh := ne_gh_gx.symm))
  (try simp only [Act.put, List.setIfInBounds_toArray, List.set_cons_zero, List.set_cons_succ])
  replace H := ((((H.setn [_] 0 (.bool (ng lo)) rfl).setn [_] 1 (.slice A15 (ln lo) c16) rfl).setn [] 0 (.bool (ng hi)) rfl).setn [] 1 (.slice A19 (ln hi) c20) rfl)
  clear kgh_0 zgh_0 kgh_1 zgh_1 kgl_0 zgl_0 kgl_1 zgl_1 kgx_0 zgx_0 kgx_1 zgx_1
  generalize ((((w24.setCell ⟨gl, 0, none⟩ (.bool (ng lo))).setCell ⟨gl, 1, none⟩ (.slice A15 (ln lo) c16)).setCell ⟨gh, 0, none⟩ (.bool (ng hi))).setCell ⟨gh, 1, none⟩ (.slice A19 (ln hi) c20)) = w26 at H ⊢
  have kgh_0 : w26.cell? ⟨gh, 0, none⟩ = some (.bool (ng hi)) := H.cell m0 0
  have zgh_0 := H.frozen (g := gh) m0 0
  have kgh_1 : w26.cell? ⟨gh, 1, none⟩ = some (.slice A19 (ln hi) c20) := H.cell m0 1
  have zgh_1 := H.frozen (g := gh) m0 1
  have kgl_0 : w26.cell? ⟨gl, 0, none⟩ = some (.bool (ng lo)) := H.cell m1 0
  have zgl_0 := H.frozen (g := gl) m1 0
  have kgl_1 : w26.cell? ⟨gl, 1, none⟩ = some (.slice A15 (ln lo) c16) := H.cell m1 1
  have zgl_1 := H.frozen (g := gl) m1 1
  have kgx_0 : w26.cell? ⟨gx, 0, none⟩ = some (.bool (ng n)) := H.cell m2 0
  have zgx_0 := H.frozen (g := gx) m2 0
  have kgx_1 : w26.cell? ⟨gx, 1, none⟩ = some (.slice A4 (ln n) c5) := H.cell m2 1
  have zgx_1 := H.frozen (g := gx) m2 1
  have st30 := trivial
  have st32 := trivial
  go_upto_region 16 with (first
    | (clear st30; go_at_call 23; (with_reducible refine (ParseQ s _ y 0 hy.out).mono ?_); rintro e w27 ⟨A28, c29, rfl, hr, hb⟩; replace H := H.got (fresh_row hr) hb; clear hr hb; clear kgh_0 zgh_0 kgh_1 zgh_1 kgl_0 zgl_0 kgl_1 zgl_1 kgx_0 zgx_0 kgx_1 zgx_1; have kgh_0 : w27.cell? ⟨gh, 0, none⟩ = some (.bool (ng hi)) := H.cell m0 0; have zgh_0 := H.frozen (g := gh) m0 0; have kgh_1 : w27.cell? ⟨gh, 1, none⟩ = some (.slice A19 (ln hi) c20) := H.cell m0 1; have zgh_1 := H.frozen (g := gh) m0 1; have kgl_0 : w27.cell? ⟨gl, 0, none⟩ = some (.bool (ng lo)) := H.cell m1 0; have zgl_0 := H.frozen (g := gl) m1 0; have kgl_1 : w27.cell? ⟨gl, 1, none⟩ = some (.slice A15 (ln lo) c16) := H.cell m1 1; have zgl_1 := H.frozen (g := gl) m1 1; have kgx_0 : w27.cell? ⟨gx, 0, none⟩ = some (.bool (ng n)) := H.cell m2 0; have zgx_0 := H.frozen (g := gx) m2 0; have kgx_1 : w27.cell? ⟨gx, 1, none⟩ = some (.slice A4 (ln n) c5) := H.cell m2 1; have zgx_1 := H.frozen (g := gx) m2 1)
    | (clear st32; (with_reducible refine gate_dst (N := 11) rfl ?_); refine box_event ?hg (N := 11) ?hd (cs := #[.bool false, .slice none 0 0]) (t := 25) ?hr ?_; (case hd => rfl); (case hg => rfl); (case hr => first | (go_simp; done) | (go_simp; rfl)); intro gy hg w31 hbox hb; replace H := H.newbox hg hbox hb; clear hg hbox hb; clear kgh_0 zgh_0 kgh_1 zgh_1 kgl_0 zgl_0 kgl_1 zgl_1 kgx_0 zgx_0 kgx_1 zgx_1; have kgy_0 : w31.cell? ⟨gy, 0, none⟩ = some (.bool false) := H.cell m0 0; have zgy_0 := H.frozen (g := gy) m0 0; have kgy_1 : w31.cell? ⟨gy, 1, none⟩ = some (.slice none 0 0) := H.cell m0 1; have zgy_1 := H.frozen (g := gy) m0 1; have kgh_0 : w31.cell? ⟨gh, 0, none⟩ = some (.bool (ng hi)) := H.cell m1 0; have zgh_0 := H.frozen (g := gh) m1 0; have kgh_1 : w31.cell? ⟨gh, 1, none⟩ = some (.slice A19 (ln hi) c20) := H.cell m1 1; have zgh_1 := H.frozen (g := gh) m1 1; have kgl_0 : w31.cell? ⟨gl, 0, none⟩ = some (.bool (ng lo)) := H.cell m2 0; have zgl_0 := H.frozen (g := gl) m2 0; have kgl_1 : w31.cell? ⟨gl, 1, none⟩ = some (.slice A15 (ln lo) c16) := H.cell m2 1; have zgl_1 := H.frozen (g := gl) m2 1; have kgx_0 : w31.cell? ⟨gx, 0, none⟩ = some (.bool (ng n)) := H.cell m3 0; have zgx_0 := H.frozen (g := gx) m3 0; have kgx_1 : w31.cell? ⟨gx, 1, none⟩ = some (.slice A4 (ln n) c5) := H.cell m3 1; have zgx_1 := H.frozen (g := gx) m3 1; have ne_gy_gh := H.ne (g := gy) (g' := gh) 0 1 rfl rfl (by decide); have ne_gh_gy := ne_gy_gh.symm; have ne_gy_gl := H.ne (g := gy) (g' := gl) 0 2 rfl rfl (by decide); have ne_gl_gy := ne_gy_gl.symm; have ne_gy_gx := H.ne (g := gy) (g' := gx) 0 3 rfl rfl (by decide); have ne_gx_gy := ne_gy_gx.symm))
  (try simp only [Act.put, List.setIfInBounds_toArray, List.set_cons_zero, List.set_cons_succ])
  replace H := ((H.setn [] 0 (.bool (ng y)) rfl).setn [] 1 (.slice A28 (ln y) c29) rfl)
  clear kgy_0 zgy_0 kgy_1 zgy_1 kgh_0 zgh_0 kgh_1 zgh_1 kgl_0 zgl_0 kgl_1 zgl_1 kgx_0 zgx_0 kgx_1 zgx_1
  generalize ((w31.setCell ⟨gy, 0, none⟩ (.bool (ng y))).setCell ⟨gy, 1, none⟩ (.slice A28 (ln y) c29)) = w33 at H ⊢
  have kgy_0 : w33.cell? ⟨gy, 0, none⟩ = some (.bool (ng y)) := H.cell m0 0
  have zgy_0 := H.frozen (g := gy) m0 0
  have kgy_1 : w33.cell? ⟨gy, 1, none⟩ = some (.slice A28 (ln y) c29) := H.cell m0 1
  have zgy_1 := H.frozen (g := gy) m0 1
  have kgh_0 : w33.cell? ⟨gh, 0, none⟩ = some (.bool (ng hi)) := H.cell m1 0
  have zgh_0 := H.frozen (g := gh) m1 0
  have kgh_1 : w33.cell? ⟨gh, 1, none⟩ = some (.slice A19 (ln hi) c20) := H.cell m1 1
  have zgh_1 := H.frozen (g := gh) m1 1
  have kgl_0 : w33.cell? ⟨gl, 0, none⟩ = some (.bool (ng lo)) := H.cell m2 0
  have zgl_0 := H.frozen (g := gl) m2 0
  have kgl_1 : w33.cell? ⟨gl, 1, none⟩ = some (.slice A15 (ln lo) c16) := H.cell m2 1
  have zgl_1 := H.frozen (g := gl) m2 1
  have kgx_0 : w33.cell? ⟨gx, 0, none⟩ = some (.bool (ng n)) := H.cell m3 0
  have zgx_0 := H.frozen (g := gx) m3 0
  have kgx_1 : w33.cell? ⟨gx, 1, none⟩ = some (.slice A4 (ln n) c5) := H.cell m3 1
  have zgx_1 := H.frozen (g := gx) m3 1
  have st35 := trivial
  have c1 := Aside0.mk (show cmp3 y lo = k1 by rw [← hlo.out]; exact hk1.out)
  have c2 := Aside0.mk (show cmp3 y hi = k2 by rw [← hhi.out]; exact hk2.out)
  have st37 := trivial
  have st39 := trivial
  go_upto_region 21 with (first
    | (clear st35; go_at_call 29; (with_reducible refine (IntQ (H.row _ m0) y true iy.out hfit.out).mono ?_); rintro e w34 ⟨rfl, hb⟩; replace H := H.call hb; clear hb; clear kgy_0 zgy_0 kgy_1 zgy_1 kgh_0 zgh_0 kgh_1 zgh_1 kgl_0 zgl_0 kgl_1 zgl_1 kgx_0 zgx_0 kgx_1 zgx_1; have kgy_0 : w34.cell? ⟨gy, 0, none⟩ = some (.bool (ng y)) := H.cell m0 0; have zgy_0 := H.frozen (g := gy) m0 0; have kgy_1 : w34.cell? ⟨gy, 1, none⟩ = some (.slice A28 (ln y) c29) := H.cell m0 1; have zgy_1 := H.frozen (g := gy) m0 1; have kgh_0 : w34.cell? ⟨gh, 0, none⟩ = some (.bool (ng hi)) := H.cell m1 0; have zgh_0 := H.frozen (g := gh) m1 0; have kgh_1 : w34.cell? ⟨gh, 1, none⟩ = some (.slice A19 (ln hi) c20) := H.cell m1 1; have zgh_1 := H.frozen (g := gh) m1 1; have kgl_0 : w34.cell? ⟨gl, 0, none⟩ = some (.bool (ng lo)) := H.cell m2 0; have zgl_0 := H.frozen (g := gl) m2 0; have kgl_1 : w34.cell? ⟨gl, 1, none⟩ = some (.slice A15 (ln lo) c16) := H.cell m2 1; have zgl_1 := H.frozen (g := gl) m2 1; have kgx_0 : w34.cell? ⟨gx, 0, none⟩ = some (.bool (ng n)) := H.cell m3 0; have zgx_0 := H.frozen (g := gx) m3 0; have kgx_1 : w34.cell? ⟨gx, 1, none⟩ = some (.slice A4 (ln n) c5) := H.cell m3 1; have zgx_1 := H.frozen (g := gx) m3 1)
    | (clear st37; go_at_call 34; (with_reducible refine (CmpQ (H.row _ m0) (H.row _ m2) (lim bY.out (by decide)) (lim blo.out (by decide)) k1 c1.out).mono ?_); rintro e w36 ⟨rfl, hb⟩; replace H := H.call hb; clear hb; clear kgy_0 zgy_0 kgy_1 zgy_1 kgh_0 zgh_0 kgh_1 zgh_1 kgl_0 zgl_0 kgl_1 zgl_1 kgx_0 zgx_0 kgx_1 zgx_1; have kgy_0 : w36.cell? ⟨gy, 0, none⟩ = some (.bool (ng y)) := H.cell m0 0; have zgy_0 := H.frozen (g := gy) m0 0; have kgy_1 : w36.cell? ⟨gy, 1, none⟩ = some (.slice A28 (ln y) c29) := H.cell m0 1; have zgy_1 := H.frozen (g := gy) m0 1; have kgh_0 : w36.cell? ⟨gh, 0, none⟩ = some (.bool (ng hi)) := H.cell m1 0; have zgh_0 := H.frozen (g := gh) m1 0; have kgh_1 : w36.cell? ⟨gh, 1, none⟩ = some (.slice A19 (ln hi) c20) := H.cell m1 1; have zgh_1 := H.frozen (g := gh) m1 1; have kgl_0 : w36.cell? ⟨gl, 0, none⟩ = some (.bool (ng lo)) := H.cell m2 0; have zgl_0 := H.frozen (g := gl) m2 0; have kgl_1 : w36.cell? ⟨gl, 1, none⟩ = some (.slice A15 (ln lo) c16) := H.cell m2 1; have zgl_1 := H.frozen (g := gl) m2 1; have kgx_0 : w36.cell? ⟨gx, 0, none⟩ = some (.bool (ng n)) := H.cell m3 0; have zgx_0 := H.frozen (g := gx) m3 0; have kgx_1 : w36.cell? ⟨gx, 1, none⟩ = some (.slice A4 (ln n) c5) := H.cell m3 1; have zgx_1 := H.frozen (g := gx) m3 1)
    | (clear st39; go_at_call 34; (with_reducible refine (CmpQ (H.row _ m0) (H.row _ m1) (lim bY.out (by decide)) (lim bhi.out (by decide)) k2 c2.out).mono ?_); rintro e w38 ⟨rfl, hb⟩; replace H := H.call hb; clear hb; clear kgy_0 zgy_0 kgy_1 zgy_1 kgh_0 zgh_0 kgh_1 zgh_1 kgl_0 zgl_0 kgl_1 zgl_1 kgx_0 zgx_0 kgx_1 zgx_1; have kgy_0 : w38.cell? ⟨gy, 0, none⟩ = some (.bool (ng y)) := H.cell m0 0; have zgy_0 := H.frozen (g := gy) m0 0; have kgy_1 : w38.cell? ⟨gy, 1, none⟩ = some (.slice A28 (ln y) c29) := H.cell m0 1; have zgy_1 := H.frozen (g := gy) m0 1; have kgh_0 : w38.cell? ⟨gh, 0, none⟩ = some (.bool (ng hi)) := H.cell m1 0; have zgh_0 := H.frozen (g := gh) m1 0; have kgh_1 : w38.cell? ⟨gh, 1, none⟩ = some (.slice A19 (ln hi) c20) := H.cell m1 1; have zgh_1 := H.frozen (g := gh) m1 1; have kgl_0 : w38.cell? ⟨gl, 0, none⟩ = some (.bool (ng lo)) := H.cell m2 0; have zgl_0 := H.frozen (g := gl) m2 0; have kgl_1 : w38.cell? ⟨gl, 1, none⟩ = some (.slice A15 (ln lo) c16) := H.cell m2 1; have zgl_1 := H.frozen (g := gl) m2 1; have kgx_0 : w38.cell? ⟨gx, 0, none⟩ = some (.bool (ng n)) := H.cell m3 0; have zgx_0 := H.frozen (g := gx) m3 0; have kgx_1 : w38.cell? ⟨gx, 1, none⟩ = some (.slice A4 (ln n) c5) := H.cell m3 1; have zgx_1 := H.frozen (g := gx) m3 1))
  (try simp only [Act.put, List.setIfInBounds_toArray, List.set_cons_zero, List.set_cons_succ])
  have by_ := bY
  clear kgy_0 zgy_0 kgy_1 zgy_1 kgh_0 zgh_0 kgh_1 zgh_1 kgl_0 zgl_0 kgl_1 zgl_1 kgx_0 zgx_0 kgx_1 zgx_1
  replace H := H.drew
  refine start_ (n := 17) (S := fun w' => w'.cell? ⟨gy, 0, none⟩ = some (.bool (ng y)) ∧ w'.cell? ⟨gy, 1, none⟩ = some (.slice A28 (ln y) c29)) (ds := []) #[false, false, false, false, false, false, false, false, false, false, false, false, false, false, false, false, false] (by kernel_rfl) rfl rfl ⟨H.cell m0 0, H.cell m0 1⟩ (fun hHeld => ?_)
  generalize w38.drew = w40 at H hHeld ⊢
  refine with_tabW tb14.tab21 tb14.bits21 (fun HT_ HW_ => ?_)
  refine pure_ (i := 0) (N := some 70) (v := ?_) (a' := ?_) #[true, false, false, false, false, false, false, false, false, false, false, false, false, false, false, false, false] rfl rfl (any_of HT_.out (by kernel_rfl)) (fun _ _ _ h => h) (Or.inl ⟨by rfl, ?_⟩) ?_ ?_
  rotate_left
  · intro w'
    go_simp
    with_reducible rfl
  rotate_left
  · simp only [Act.put, List.setIfInBounds_toArray, List.set_cons_zero, List.set_cons_succ, i64_w, i32_w]
    rfl
  refine pure_ (i := 1) (N := some 71) (v := ?_) (a' := ?_) #[true, true, false, false, false, false, false, false, false, false, false, false, false, false, false, false, false] rfl rfl (any_of HT_.out (by kernel_rfl)) (fun _ _ _ h => h) (Or.inl ⟨by rfl, ?_⟩) ?_ ?_
  rotate_left
  · intro w'
    go_simp
    with_reducible rfl
  rotate_left
  · simp only [Act.put, List.setIfInBounds_toArray, List.set_cons_zero, List.set_cons_succ, i64_w, i32_w]
    rfl
  refine pure_ (i := 2) (N := some 72) (v := ?_) (a' := ?_) #[true, true, true, false, false, false, false, false, false, false, false, false, false, false, false, false, false] rfl rfl (any_of HT_.out (by kernel_rfl)) (fun _ _ _ h => h) (Or.inl ⟨by rfl, ?_⟩) ?_ ?_
  rotate_left
  · intro w'
    go_simp
    with_reducible rfl
  rotate_left
  · simp only [Act.put, List.setIfInBounds_toArray, List.set_cons_zero, List.set_cons_succ, i64_w, i32_w]
    rfl
  refine pure_ (i := 3) (N := some 73) (v := undef) (a' := ?_) #[true, true, true, true, false, false, false, false, false, false, false, false, false, false, false, false, false] rfl rfl (any_of HT_.out (by kernel_rfl)) (fun _ _ _ h => h) (Or.inr ⟨by rfl, rfl⟩) ?_ ?_
  rotate_left
  · simp only [Act.put, List.setIfInBounds_toArray, List.set_cons_zero, List.set_cons_succ, i64_w, i32_w]
    rfl
  refine pure_ (i := 4) (N := some 74) (v := undef) (a' := ?_) #[true, true, true, true, true, false, false, false, false, false, false, false, false, false, false, false, false] rfl rfl (any_of HT_.out (by kernel_rfl)) (fun _ _ _ h => h) (Or.inr ⟨by rfl, rfl⟩) ?_ ?_
  rotate_left
  · simp only [Act.put, List.setIfInBounds_toArray, List.set_cons_zero, List.set_cons_succ, i64_w, i32_w]
    rfl
  refine pure_ (i := 5) (N := some 75) (v := ?_) (a' := ?_) #[true, true, true, true, true, true, false, false, false, false, false, false, false, false, false, false, false] rfl rfl (any_of HT_.out (by kernel_rfl)) (fun _ _ _ h => h) (Or.inl ⟨by rfl, ?_⟩) ?_ ?_
  rotate_left
  · intro w'
    go_simp
    with_reducible rfl
  rotate_left
  · simp only [Act.put, List.setIfInBounds_toArray, List.set_cons_zero, List.set_cons_succ, i64_w, i32_w]
    rfl
  refine pure_ (i := 6) (N := some 76) (v := ?_) (a' := ?_) #[true, true, true, true, true, true, true, false, false, false, false, false, false, false, false, false, false] rfl rfl (any_of HT_.out (by kernel_rfl)) (fun _ _ _ h => h) (Or.inl ⟨by rfl, ?_⟩) ?_ ?_
  rotate_left
  · intro w'
    go_simp
    with_reducible rfl
  rotate_left
  · simp only [Act.put, List.setIfInBounds_toArray, List.set_cons_zero, List.set_cons_succ, i64_w, i32_w]
    rfl
  refine pure_ (i := 7) (N := some 77) (v := ?_) (a' := ?_) #[true, true, true, true, true, true, true, true, false, false, false, false, false, false, false, false, false] rfl rfl (any_of HT_.out (by kernel_rfl)) (fun _ _ _ h => h) (Or.inl ⟨by rfl, ?_⟩) ?_ ?_
  rotate_left
  · intro w'
    go_simp
    with_reducible rfl
  rotate_left
  · simp only [Act.put, List.setIfInBounds_toArray, List.set_cons_zero, List.set_cons_succ, i64_w, i32_w]
    rfl
  refine pure_ (i := 8) (N := some 78) (v := ?_) (a' := ?_) #[true, true, true, true, true, true, true, true, true, false, false, false, false, false, false, false, false] rfl rfl (any_of HT_.out (by kernel_rfl)) (fun _ _ _ h => h) (Or.inl ⟨by rfl, ?_⟩) ?_ ?_
  rotate_left
  · intro w'
    go_simp
    with_reducible rfl
  rotate_left
  · simp only [Act.put, List.setIfInBounds_toArray, List.set_cons_zero, List.set_cons_succ, i64_w, i32_w]
    rfl
  refine pure_ (i := 9) (N := some 79) (v := ?_) (a' := ?_) #[true, true, true, true, true, true, true, true, true, true, false, false, false, false, false, false, false] rfl rfl (any_of HT_.out (by kernel_rfl)) (fun _ _ _ h => h) (Or.inl ⟨by rfl, ?_⟩) ?_ ?_
  rotate_left
  · intro w'
    go_simp
    with_reducible rfl
  rotate_left
  · simp only [Act.put, List.setIfInBounds_toArray, List.set_cons_zero, List.set_cons_succ, i64_w, i32_w]
    rfl
  refine take_ (i := 11) (N := some 81) (v := ?_) (a' := ?_) #[true, true, true, true, true, true, true, true, true, true, false, true, false, false, false, false, false] rfl rfl (take_ofW HT_.out HW_.out (by kernel_rfl)) (fun _ _ _ h => h) (Or.inl ⟨by rfl, ?_⟩) hHeld ?_ ?_
  rotate_left
  · rintro w' ⟨s0, s1⟩
    go_simp
    with_reducible rfl
  rotate_left
  · simp only [Act.put, List.setIfInBounds_toArray, List.set_cons_zero, List.set_cons_succ, i64_w, i32_w]
    rfl
  refine one_ (i := 10) (N := some 80) #[true, true, true, true, true, true, true, true, true, true, true, true, false, false, false, false, false] rfl rfl (one_of HT_.out (by kernel_rfl)) (by decide) (fun K hK => ?_)
  refine goes_ Try.func27 (by kernel_rfl) rfl #[.int .i64 y] (by rfl) rfl rfl (by (try simp only [List.map_toArray, List.map_cons, List.map_nil]); first | done | rfl) ?_
  with_reducible refine (OfQ _ y y2 hy2.out (by omega) (by omega)).mono ?_
  rintro e w41 ⟨A42, c43, rfl, hr, hb⟩
  replace H := H.got (fresh_row hr) hb
  clear hr hb
  refine ⟨_, rfl, ?_⟩
  refine hK.out _ _ ⟨H.cell m0 0, H.cell m0 1⟩ (fun hHeld => ?_)
  clear hK K
  refine norm_ (a' := ?_) ?_ ?_
  rotate_left
  · show Act.put _ (some 80) _ = _
    simp only [Act.put, List.setIfInBounds_toArray, List.set_cons_zero, List.set_cons_succ, i64_w, i32_w]
    rfl
  refine one_ (i := 12) (N := some 82) #[true, true, true, true, true, true, true, true, true, true, true, true, true, false, false, false, false] rfl rfl (one_of HT_.out (by kernel_rfl)) (by decide) (fun K hK => ?_)
  refine goes_ Try.func34 (by kernel_rfl) rfl #[.agg #[.bool (ng y2), .slice A42 (ln y2) c43], .agg #[.bool (ng y), .slice A28 (ln y) c29]] (by rfl) rfl rfl (by (try simp only [List.map_toArray, List.map_cons, List.map_nil]); first | done | rfl) ?_
  with_reducible refine (CmpQ (H.row _ m0) (H.row _ m1) (lim by2.out (by decide)) (lim bY.out (by decide)) 0 hc.out).mono ?_
  rintro e w44 ⟨rfl, hb⟩
  replace H := H.call hb
  clear hb
  refine ⟨_, rfl, ?_⟩
  refine hK.out _ _ ⟨H.cell m0 0, H.cell m0 1⟩ (fun hHeld => ?_)
  clear hK K
  refine norm_ (a' := ?_) ?_ ?_
  rotate_left
  · show Act.put _ (some 82) _ = _
    simp only [Act.put, List.setIfInBounds_toArray, List.set_cons_zero, List.set_cons_succ, i64_w, i32_w]
    rfl
  refine pure_ (i := 13) (N := some 83) (v := ?_) (a' := ?_) #[true, true, true, true, true, true, true, true, true, true, true, true, true, true, false, false, false] rfl rfl (any_of HT_.out (by kernel_rfl)) (fun _ _ _ h => h) (Or.inl ⟨by rfl, ?_⟩) ?_ ?_
  rotate_left
  · intro w'
    go_simp
    with_reducible rfl
  rotate_left
  · simp only [Act.put, List.setIfInBounds_toArray, List.set_cons_zero, List.set_cons_succ, i64_w, i32_w]
    rfl
  refine pure_ (i := 14) (N := some 84) (v := ?_) (a' := ?_) #[true, true, true, true, true, true, true, true, true, true, true, true, true, true, true, false, false] rfl rfl (any_of HT_.out (by kernel_rfl)) (fun _ _ _ h => h) (Or.inl ⟨by rfl, ?_⟩) ?_ ?_
  rotate_left
  · intro w'
    go_simp
    with_reducible rfl
  rotate_left
  · simp only [Act.put, List.setIfInBounds_toArray, List.set_cons_zero, List.set_cons_succ, i64_w, i32_w]
    rfl
  refine pure_ (i := 15) (N := some 85) (v := ?_) (a' := ?_) #[true, true, true, true, true, true, true, true, true, true, true, true, true, true, true, true, false] rfl rfl (any_of HT_.out (by kernel_rfl)) (fun _ _ _ h => h) (Or.inl ⟨by rfl, ?_⟩) ?_ ?_
  rotate_left
  · intro w'
    go_simp
    with_reducible rfl
  rotate_left
  · simp only [Act.put, List.setIfInBounds_toArray, List.set_cons_zero, List.set_cons_succ, i64_w, i32_w]
    rfl
  refine pure_ (i := 16) (N := some 4) (v := ?_) (a' := ?_) #[true, true, true, true, true, true, true, true, true, true, true, true, true, true, true, true, true] rfl rfl (any_of HT_.out (by kernel_rfl)) (fun _ _ _ h => h) (Or.inl ⟨by rfl, ?_⟩) ?_ ?_
  rotate_left
  · intro w'
    go_simp
    with_reducible rfl
  rotate_left
  · simp only [Act.put, List.setIfInBounds_toArray, List.set_cons_zero, List.set_cons_succ, i64_w, i32_w]
    rfl
  refine done_ (done_of HT_.out (by kernel_rfl)) ?_
  try clear hHeld
  go_wp2
  go_ret
  exact ⟨rfl, H.below⟩

set_option maxHeartbeats 8000000 in
set_option maxRecDepth 100000 in
theorem ints_un_z (n : Int) (s : ByteArray) (w : World) (n0 : -9223372036854775808 ≤ n) (n1 : n ≤ 9223372036854775807) (hs : n = 0) (hsz : s.size ≤ 80) (y : Int) (hy : Aside0 (pr s = (y, 0))) (hF : fitsI y = false) : Calls Try.prog 14 #[.int .i64 n, .string s] w (fun e W' => e = .returned (.bool true) ∧ Below w.heap.size w W') := by
  have d1 : decide (80 < (s.size : Int)) = false := decide_eq_false (by omega)
  have d2 : decide (80 < s.size) = false := decide_eq_false (by omega)
  have bY := Aside0.mk (pr_small hy.out hsz)
  obtain ⟨k1, ek1⟩ : ∃ v, cmp3 y (-9223372036854775808) = v := ⟨_, rfl⟩
  obtain ⟨k2, ek2⟩ : ∃ v, cmp3 y 9223372036854775807 = v := ⟨_, rfl⟩
  have hf := fits_iff y
  rw [ek1, ek2] at hf
  have hk1 := Aside0.mk ek1
  have hk2 := Aside0.mk ek2
  clear ek1 ek2
  have hfit := Aside0.mk hF
  have iy := Aside0.mk (show intOfI y = 0 by unfold intOfI; rw [if_neg (of_decide_eq_false hF)])
  rw [hF] at hf
  have hff := Aside0.mk hf
  clear hF hf
  have hu25 := Try.underlying25
  have H := Sit.start w (fun _ => False)
  have bn := Aside0.mk (bOf (r := n) (by omega))
  have i1 := Aside0.mk (show intOfI n = n from intOf_fit n0 n1)
  have f1 := Aside0.mk (show fitsI n = true from fits_fit n0 n1)
  have t1 : (n != n) = false := by simp
  have t2 : decide (0 < n) = false := decide_eq_false (by omega)
  have t3 : decide (n < 0) = false := decide_eq_false (by omega)
  have hsg := Aside0.mk (show sg n = 0 from by rw [hs]; rfl)
  obtain ⟨lo, elo⟩ : ∃ v : Int, (-9223372036854775808 : Int) = v := ⟨_, rfl⟩
  obtain ⟨hi, ehi⟩ : ∃ v : Int, (9223372036854775807 : Int) = v := ⟨_, rfl⟩
  have hlo := Aside0.mk elo
  have hhi := Aside0.mk ehi
  have blo := Aside0.mk (bOf (r := lo) (by omega))
  have bhi := Aside0.mk (bOf (r := hi) (by omega))
  clear elo ehi hs
  go_enter Try.func14, Try.ntmps14
  have st2 := trivial
  have st6 := trivial
  have st8 := trivial
  go_upto_region 4 with (first
    | (clear st2; go_at_call 22; (with_reducible refine (awake_ok _).mono ?_); rintro e wA ⟨rfl, hb⟩; replace H := H.call hb; clear hb)
    | (clear st6; go_at_call 27; (with_reducible refine (OfQ _ n n rfl (by omega) (by omega)).mono ?_); rintro e w3 ⟨A4, c5, rfl, hr, hb⟩; replace H := H.got (fresh_row hr) hb; clear hr hb)
    | (clear st8; (with_reducible refine gate_dst (N := 5) rfl ?_); refine box_event ?hg (N := 5) ?hd (cs := #[.bool false, .slice none 0 0]) (t := 25) ?hr ?_; (case hd => rfl); (case hg => rfl); (case hr => first | (go_simp; done) | (go_simp; rfl)); intro gx hg w7 hbox hb; replace H := H.newbox hg hbox hb; clear hg hbox hb; have kgx_0 : w7.cell? ⟨gx, 0, none⟩ = some (.bool false) := H.cell m0 0; have zgx_0 := H.frozen (g := gx) m0 0; have kgx_1 : w7.cell? ⟨gx, 1, none⟩ = some (.slice none 0 0) := H.cell m0 1; have zgx_1 := H.frozen (g := gx) m0 1))
  (try simp only [Act.put, List.setIfInBounds_toArray, List.set_cons_zero, List.set_cons_succ])
  replace H := ((H.setn [] 0 (.bool (ng n)) rfl).setn [] 1 (.slice A4 (ln n) c5) rfl)
  clear kgx_0 zgx_0 kgx_1 zgx_1
  generalize ((w7.setCell ⟨gx, 0, none⟩ (.bool (ng n))).setCell ⟨gx, 1, none⟩ (.slice A4 (ln n) c5)) = w9 at H ⊢
  have kgx_0 : w9.cell? ⟨gx, 0, none⟩ = some (.bool (ng n)) := H.cell m0 0
  have zgx_0 := H.frozen (g := gx) m0 0
  have kgx_1 : w9.cell? ⟨gx, 1, none⟩ = some (.slice A4 (ln n) c5) := H.cell m0 1
  have zgx_1 := H.frozen (g := gx) m0 1
  have st11 := trivial
  have st13 := trivial
  have st17 := trivial
  have st21 := trivial
  have st23 := trivial
  have st25 := trivial
  go_upto_region 13 with (first
    | (clear st11; go_at_call 29; (with_reducible refine (IntQ (H.row _ m0) n true i1.out f1.out).mono ?_); rintro e w10 ⟨rfl, hb⟩; replace H := H.call hb; clear hb; clear kgx_0 zgx_0 kgx_1 zgx_1; have kgx_0 : w10.cell? ⟨gx, 0, none⟩ = some (.bool (ng n)) := H.cell m0 0; have zgx_0 := H.frozen (g := gx) m0 0; have kgx_1 : w10.cell? ⟨gx, 1, none⟩ = some (.slice A4 (ln n) c5) := H.cell m0 1; have zgx_1 := H.frozen (g := gx) m0 1)
    | (clear st13; go_at_call 25; (with_reducible refine (SignQ _ _ _ (lim bn.out (by decide)) 0 hsg.out).mono ?_); rintro e w12 ⟨rfl, hb⟩; replace H := H.call hb; clear hb; clear kgx_0 zgx_0 kgx_1 zgx_1; have kgx_0 : w12.cell? ⟨gx, 0, none⟩ = some (.bool (ng n)) := H.cell m0 0; have zgx_0 := H.frozen (g := gx) m0 0; have kgx_1 : w12.cell? ⟨gx, 1, none⟩ = some (.slice A4 (ln n) c5) := H.cell m0 1; have zgx_1 := H.frozen (g := gx) m0 1)
    | (clear st17; go_at_call 27; (with_reducible refine (OfQ _ (-9223372036854775808) lo hlo.out (by omega) (by omega)).mono ?_); rintro e w14 ⟨A15, c16, rfl, hr, hb⟩; replace H := H.got (fresh_row hr) hb; clear hr hb; clear kgx_0 zgx_0 kgx_1 zgx_1; have kgx_0 : w14.cell? ⟨gx, 0, none⟩ = some (.bool (ng n)) := H.cell m0 0; have zgx_0 := H.frozen (g := gx) m0 0; have kgx_1 : w14.cell? ⟨gx, 1, none⟩ = some (.slice A4 (ln n) c5) := H.cell m0 1; have zgx_1 := H.frozen (g := gx) m0 1)
    | (clear st21; go_at_call 27; (with_reducible refine (OfQ _ 9223372036854775807 hi hhi.out (by omega) (by omega)).mono ?_); rintro e w18 ⟨A19, c20, rfl, hr, hb⟩; replace H := H.got (fresh_row hr) hb; clear hr hb; clear kgx_0 zgx_0 kgx_1 zgx_1; have kgx_0 : w18.cell? ⟨gx, 0, none⟩ = some (.bool (ng n)) := H.cell m0 0; have zgx_0 := H.frozen (g := gx) m0 0; have kgx_1 : w18.cell? ⟨gx, 1, none⟩ = some (.slice A4 (ln n) c5) := H.cell m0 1; have zgx_1 := H.frozen (g := gx) m0 1)
    | (clear st23; (with_reducible refine gate_dst (N := 9) rfl ?_); refine box_event ?hg (N := 9) ?hd (cs := #[.bool false, .slice none 0 0]) (t := 25) ?hr ?_; (case hd => rfl); (case hg => rfl); (case hr => first | (go_simp; done) | (go_simp; rfl)); intro gl hg w22 hbox hb; replace H := H.newbox hg hbox hb; clear hg hbox hb; clear kgx_0 zgx_0 kgx_1 zgx_1; have kgl_0 : w22.cell? ⟨gl, 0, none⟩ = some (.bool false) := H.cell m0 0; have zgl_0 := H.frozen (g := gl) m0 0; have kgl_1 : w22.cell? ⟨gl, 1, none⟩ = some (.slice none 0 0) := H.cell m0 1; have zgl_1 := H.frozen (g := gl) m0 1; have kgx_0 : w22.cell? ⟨gx, 0, none⟩ = some (.bool (ng n)) := H.cell m1 0; have zgx_0 := H.frozen (g := gx) m1 0; have kgx_1 : w22.cell? ⟨gx, 1, none⟩ = some (.slice A4 (ln n) c5) := H.cell m1 1; have zgx_1 := H.frozen (g := gx) m1 1; have ne_gl_gx := H.ne (g := gl) (g' := gx) 0 1 rfl rfl (by decide); have ne_gx_gl := ne_gl_gx.symm)
    | (clear st25; (with_reducible refine gate_dst (N := 10) rfl ?_); refine box_event ?hg (N := 10) ?hd (cs := #[.bool false, .slice none 0 0]) (t := 25) ?hr ?_; (case hd => rfl); (case hg => rfl); (case hr => first | (go_simp; done) | (go_simp; rfl)); intro gh hg w24 hbox hb; replace H := H.newbox hg hbox hb; clear hg hbox hb; clear kgl_0 zgl_0 kgl_1 zgl_1 kgx_0 zgx_0 kgx_1 zgx_1; have kgh_0 : w24.cell? ⟨gh, 0, none⟩ = some (.bool false) := H.cell m0 0; have zgh_0 := H.frozen (g := gh) m0 0; have kgh_1 : w24.cell? ⟨gh, 1, none⟩ = some (.slice none 0 0) := H.cell m0 1; have zgh_1 := H.frozen (g := gh) m0 1; have kgl_0 : w24.cell? ⟨gl, 0, none⟩ = some (.bool false) := H.cell m1 0; have zgl_0 := H.frozen (g := gl) m1 0; have kgl_1 : w24.cell? ⟨gl, 1, none⟩ = some (.slice none 0 0) := H.cell m1 1; have zgl_1 := H.frozen (g := gl) m1 1; have kgx_0 : w24.cell? ⟨gx, 0, none⟩ = some (.bool (ng n)) := H.cell m2 0; have zgx_0 := H.frozen (g := gx) m2 0; have kgx_1 : w24.cell? ⟨gx, 1, none⟩ = some (.slice A4 (ln n) c5) := H.cell m2 1; have zgx_1 := H.frozen (g := gx) m2 1; have ne_gh_gl := H.ne (g := gh) (g' := gl) 0 1 rfl rfl (by decide); have ne_gl_gh := ne_gh_gl.symm; have ne_gh_gx := H.ne (g := gh) (g' := gx) 0 2 rfl rfl (by decide); have ne_gx_gh := ne_gh_gx.symm))
  (try simp only [Act.put, List.setIfInBounds_toArray, List.set_cons_zero, List.set_cons_succ])
  replace H := ((((H.setn [_] 0 (.bool (ng lo)) rfl).setn [_] 1 (.slice A15 (ln lo) c16) rfl).setn [] 0 (.bool (ng hi)) rfl).setn [] 1 (.slice A19 (ln hi) c20) rfl)
  clear kgh_0 zgh_0 kgh_1 zgh_1 kgl_0 zgl_0 kgl_1 zgl_1 kgx_0 zgx_0 kgx_1 zgx_1
  generalize ((((w24.setCell ⟨gl, 0, none⟩ (.bool (ng lo))).setCell ⟨gl, 1, none⟩ (.slice A15 (ln lo) c16)).setCell ⟨gh, 0, none⟩ (.bool (ng hi))).setCell ⟨gh, 1, none⟩ (.slice A19 (ln hi) c20)) = w26 at H ⊢
  have kgh_0 : w26.cell? ⟨gh, 0, none⟩ = some (.bool (ng hi)) := H.cell m0 0
  have zgh_0 := H.frozen (g := gh) m0 0
  have kgh_1 : w26.cell? ⟨gh, 1, none⟩ = some (.slice A19 (ln hi) c20) := H.cell m0 1
  have zgh_1 := H.frozen (g := gh) m0 1
  have kgl_0 : w26.cell? ⟨gl, 0, none⟩ = some (.bool (ng lo)) := H.cell m1 0
  have zgl_0 := H.frozen (g := gl) m1 0
  have kgl_1 : w26.cell? ⟨gl, 1, none⟩ = some (.slice A15 (ln lo) c16) := H.cell m1 1
  have zgl_1 := H.frozen (g := gl) m1 1
  have kgx_0 : w26.cell? ⟨gx, 0, none⟩ = some (.bool (ng n)) := H.cell m2 0
  have zgx_0 := H.frozen (g := gx) m2 0
  have kgx_1 : w26.cell? ⟨gx, 1, none⟩ = some (.slice A4 (ln n) c5) := H.cell m2 1
  have zgx_1 := H.frozen (g := gx) m2 1
  have st30 := trivial
  have st32 := trivial
  go_upto_region 16 with (first
    | (clear st30; go_at_call 23; (with_reducible refine (ParseQ s _ y 0 hy.out).mono ?_); rintro e w27 ⟨A28, c29, rfl, hr, hb⟩; replace H := H.got (fresh_row hr) hb; clear hr hb; clear kgh_0 zgh_0 kgh_1 zgh_1 kgl_0 zgl_0 kgl_1 zgl_1 kgx_0 zgx_0 kgx_1 zgx_1; have kgh_0 : w27.cell? ⟨gh, 0, none⟩ = some (.bool (ng hi)) := H.cell m0 0; have zgh_0 := H.frozen (g := gh) m0 0; have kgh_1 : w27.cell? ⟨gh, 1, none⟩ = some (.slice A19 (ln hi) c20) := H.cell m0 1; have zgh_1 := H.frozen (g := gh) m0 1; have kgl_0 : w27.cell? ⟨gl, 0, none⟩ = some (.bool (ng lo)) := H.cell m1 0; have zgl_0 := H.frozen (g := gl) m1 0; have kgl_1 : w27.cell? ⟨gl, 1, none⟩ = some (.slice A15 (ln lo) c16) := H.cell m1 1; have zgl_1 := H.frozen (g := gl) m1 1; have kgx_0 : w27.cell? ⟨gx, 0, none⟩ = some (.bool (ng n)) := H.cell m2 0; have zgx_0 := H.frozen (g := gx) m2 0; have kgx_1 : w27.cell? ⟨gx, 1, none⟩ = some (.slice A4 (ln n) c5) := H.cell m2 1; have zgx_1 := H.frozen (g := gx) m2 1)
    | (clear st32; (with_reducible refine gate_dst (N := 11) rfl ?_); refine box_event ?hg (N := 11) ?hd (cs := #[.bool false, .slice none 0 0]) (t := 25) ?hr ?_; (case hd => rfl); (case hg => rfl); (case hr => first | (go_simp; done) | (go_simp; rfl)); intro gy hg w31 hbox hb; replace H := H.newbox hg hbox hb; clear hg hbox hb; clear kgh_0 zgh_0 kgh_1 zgh_1 kgl_0 zgl_0 kgl_1 zgl_1 kgx_0 zgx_0 kgx_1 zgx_1; have kgy_0 : w31.cell? ⟨gy, 0, none⟩ = some (.bool false) := H.cell m0 0; have zgy_0 := H.frozen (g := gy) m0 0; have kgy_1 : w31.cell? ⟨gy, 1, none⟩ = some (.slice none 0 0) := H.cell m0 1; have zgy_1 := H.frozen (g := gy) m0 1; have kgh_0 : w31.cell? ⟨gh, 0, none⟩ = some (.bool (ng hi)) := H.cell m1 0; have zgh_0 := H.frozen (g := gh) m1 0; have kgh_1 : w31.cell? ⟨gh, 1, none⟩ = some (.slice A19 (ln hi) c20) := H.cell m1 1; have zgh_1 := H.frozen (g := gh) m1 1; have kgl_0 : w31.cell? ⟨gl, 0, none⟩ = some (.bool (ng lo)) := H.cell m2 0; have zgl_0 := H.frozen (g := gl) m2 0; have kgl_1 : w31.cell? ⟨gl, 1, none⟩ = some (.slice A15 (ln lo) c16) := H.cell m2 1; have zgl_1 := H.frozen (g := gl) m2 1; have kgx_0 : w31.cell? ⟨gx, 0, none⟩ = some (.bool (ng n)) := H.cell m3 0; have zgx_0 := H.frozen (g := gx) m3 0; have kgx_1 : w31.cell? ⟨gx, 1, none⟩ = some (.slice A4 (ln n) c5) := H.cell m3 1; have zgx_1 := H.frozen (g := gx) m3 1; have ne_gy_gh := H.ne (g := gy) (g' := gh) 0 1 rfl rfl (by decide); have ne_gh_gy := ne_gy_gh.symm; have ne_gy_gl := H.ne (g := gy) (g' := gl) 0 2 rfl rfl (by decide); have ne_gl_gy := ne_gy_gl.symm; have ne_gy_gx := H.ne (g := gy) (g' := gx) 0 3 rfl rfl (by decide); have ne_gx_gy := ne_gy_gx.symm))
  (try simp only [Act.put, List.setIfInBounds_toArray, List.set_cons_zero, List.set_cons_succ])
  replace H := ((H.setn [] 0 (.bool (ng y)) rfl).setn [] 1 (.slice A28 (ln y) c29) rfl)
  clear kgy_0 zgy_0 kgy_1 zgy_1 kgh_0 zgh_0 kgh_1 zgh_1 kgl_0 zgl_0 kgl_1 zgl_1 kgx_0 zgx_0 kgx_1 zgx_1
  generalize ((w31.setCell ⟨gy, 0, none⟩ (.bool (ng y))).setCell ⟨gy, 1, none⟩ (.slice A28 (ln y) c29)) = w33 at H ⊢
  have kgy_0 : w33.cell? ⟨gy, 0, none⟩ = some (.bool (ng y)) := H.cell m0 0
  have zgy_0 := H.frozen (g := gy) m0 0
  have kgy_1 : w33.cell? ⟨gy, 1, none⟩ = some (.slice A28 (ln y) c29) := H.cell m0 1
  have zgy_1 := H.frozen (g := gy) m0 1
  have kgh_0 : w33.cell? ⟨gh, 0, none⟩ = some (.bool (ng hi)) := H.cell m1 0
  have zgh_0 := H.frozen (g := gh) m1 0
  have kgh_1 : w33.cell? ⟨gh, 1, none⟩ = some (.slice A19 (ln hi) c20) := H.cell m1 1
  have zgh_1 := H.frozen (g := gh) m1 1
  have kgl_0 : w33.cell? ⟨gl, 0, none⟩ = some (.bool (ng lo)) := H.cell m2 0
  have zgl_0 := H.frozen (g := gl) m2 0
  have kgl_1 : w33.cell? ⟨gl, 1, none⟩ = some (.slice A15 (ln lo) c16) := H.cell m2 1
  have zgl_1 := H.frozen (g := gl) m2 1
  have kgx_0 : w33.cell? ⟨gx, 0, none⟩ = some (.bool (ng n)) := H.cell m3 0
  have zgx_0 := H.frozen (g := gx) m3 0
  have kgx_1 : w33.cell? ⟨gx, 1, none⟩ = some (.slice A4 (ln n) c5) := H.cell m3 1
  have zgx_1 := H.frozen (g := gx) m3 1
  have st35 := trivial
  have c1 := Aside0.mk (show cmp3 y lo = k1 by rw [← hlo.out]; exact hk1.out)
  have c2 := Aside0.mk (show cmp3 y hi = k2 by rw [← hhi.out]; exact hk2.out)
  by_cases hu : 0 ≤ k1
  · skip
    have u1 : decide (0 ≤ k1) = true := decide_eq_true hu
    have u2 : decide (k2 ≤ 0) = false := by have hf := hff.out; have u1' : decide (k1 ≥ 0) = true := u1; rw [u1', Bool.true_and] at hf; exact hf.symm
    have st37 := trivial
    have st39 := trivial
    go_upto_region 21 with (first
      | (clear st35; go_at_call 29; (with_reducible refine (IntQ (H.row _ m0) 0 false iy.out hfit.out).mono ?_); rintro e w34 ⟨rfl, hb⟩; replace H := H.call hb; clear hb; clear kgy_0 zgy_0 kgy_1 zgy_1 kgh_0 zgh_0 kgh_1 zgh_1 kgl_0 zgl_0 kgl_1 zgl_1 kgx_0 zgx_0 kgx_1 zgx_1; have kgy_0 : w34.cell? ⟨gy, 0, none⟩ = some (.bool (ng y)) := H.cell m0 0; have zgy_0 := H.frozen (g := gy) m0 0; have kgy_1 : w34.cell? ⟨gy, 1, none⟩ = some (.slice A28 (ln y) c29) := H.cell m0 1; have zgy_1 := H.frozen (g := gy) m0 1; have kgh_0 : w34.cell? ⟨gh, 0, none⟩ = some (.bool (ng hi)) := H.cell m1 0; have zgh_0 := H.frozen (g := gh) m1 0; have kgh_1 : w34.cell? ⟨gh, 1, none⟩ = some (.slice A19 (ln hi) c20) := H.cell m1 1; have zgh_1 := H.frozen (g := gh) m1 1; have kgl_0 : w34.cell? ⟨gl, 0, none⟩ = some (.bool (ng lo)) := H.cell m2 0; have zgl_0 := H.frozen (g := gl) m2 0; have kgl_1 : w34.cell? ⟨gl, 1, none⟩ = some (.slice A15 (ln lo) c16) := H.cell m2 1; have zgl_1 := H.frozen (g := gl) m2 1; have kgx_0 : w34.cell? ⟨gx, 0, none⟩ = some (.bool (ng n)) := H.cell m3 0; have zgx_0 := H.frozen (g := gx) m3 0; have kgx_1 : w34.cell? ⟨gx, 1, none⟩ = some (.slice A4 (ln n) c5) := H.cell m3 1; have zgx_1 := H.frozen (g := gx) m3 1)
      | (clear st37; go_at_call 34; (with_reducible refine (CmpQ (H.row _ m0) (H.row _ m2) (lim bY.out (by decide)) (lim blo.out (by decide)) k1 c1.out).mono ?_); rintro e w36 ⟨rfl, hb⟩; replace H := H.call hb; clear hb; clear kgy_0 zgy_0 kgy_1 zgy_1 kgh_0 zgh_0 kgh_1 zgh_1 kgl_0 zgl_0 kgl_1 zgl_1 kgx_0 zgx_0 kgx_1 zgx_1; have kgy_0 : w36.cell? ⟨gy, 0, none⟩ = some (.bool (ng y)) := H.cell m0 0; have zgy_0 := H.frozen (g := gy) m0 0; have kgy_1 : w36.cell? ⟨gy, 1, none⟩ = some (.slice A28 (ln y) c29) := H.cell m0 1; have zgy_1 := H.frozen (g := gy) m0 1; have kgh_0 : w36.cell? ⟨gh, 0, none⟩ = some (.bool (ng hi)) := H.cell m1 0; have zgh_0 := H.frozen (g := gh) m1 0; have kgh_1 : w36.cell? ⟨gh, 1, none⟩ = some (.slice A19 (ln hi) c20) := H.cell m1 1; have zgh_1 := H.frozen (g := gh) m1 1; have kgl_0 : w36.cell? ⟨gl, 0, none⟩ = some (.bool (ng lo)) := H.cell m2 0; have zgl_0 := H.frozen (g := gl) m2 0; have kgl_1 : w36.cell? ⟨gl, 1, none⟩ = some (.slice A15 (ln lo) c16) := H.cell m2 1; have zgl_1 := H.frozen (g := gl) m2 1; have kgx_0 : w36.cell? ⟨gx, 0, none⟩ = some (.bool (ng n)) := H.cell m3 0; have zgx_0 := H.frozen (g := gx) m3 0; have kgx_1 : w36.cell? ⟨gx, 1, none⟩ = some (.slice A4 (ln n) c5) := H.cell m3 1; have zgx_1 := H.frozen (g := gx) m3 1)
      | (clear st39; go_at_call 34; (with_reducible refine (CmpQ (H.row _ m0) (H.row _ m1) (lim bY.out (by decide)) (lim bhi.out (by decide)) k2 c2.out).mono ?_); rintro e w38 ⟨rfl, hb⟩; replace H := H.call hb; clear hb; clear kgy_0 zgy_0 kgy_1 zgy_1 kgh_0 zgh_0 kgh_1 zgh_1 kgl_0 zgl_0 kgl_1 zgl_1 kgx_0 zgx_0 kgx_1 zgx_1; have kgy_0 : w38.cell? ⟨gy, 0, none⟩ = some (.bool (ng y)) := H.cell m0 0; have zgy_0 := H.frozen (g := gy) m0 0; have kgy_1 : w38.cell? ⟨gy, 1, none⟩ = some (.slice A28 (ln y) c29) := H.cell m0 1; have zgy_1 := H.frozen (g := gy) m0 1; have kgh_0 : w38.cell? ⟨gh, 0, none⟩ = some (.bool (ng hi)) := H.cell m1 0; have zgh_0 := H.frozen (g := gh) m1 0; have kgh_1 : w38.cell? ⟨gh, 1, none⟩ = some (.slice A19 (ln hi) c20) := H.cell m1 1; have zgh_1 := H.frozen (g := gh) m1 1; have kgl_0 : w38.cell? ⟨gl, 0, none⟩ = some (.bool (ng lo)) := H.cell m2 0; have zgl_0 := H.frozen (g := gl) m2 0; have kgl_1 : w38.cell? ⟨gl, 1, none⟩ = some (.slice A15 (ln lo) c16) := H.cell m2 1; have zgl_1 := H.frozen (g := gl) m2 1; have kgx_0 : w38.cell? ⟨gx, 0, none⟩ = some (.bool (ng n)) := H.cell m3 0; have zgx_0 := H.frozen (g := gx) m3 0; have kgx_1 : w38.cell? ⟨gx, 1, none⟩ = some (.slice A4 (ln n) c5) := H.cell m3 1; have zgx_1 := H.frozen (g := gx) m3 1))
    (try simp only [Act.put, List.setIfInBounds_toArray, List.set_cons_zero, List.set_cons_succ])
    clear kgy_0 zgy_0 kgy_1 zgy_1 kgh_0 zgh_0 kgh_1 zgh_1 kgl_0 zgl_0 kgl_1 zgl_1 kgx_0 zgx_0 kgx_1 zgx_1
    replace H := H.drew
    refine start_ (n := 17) (S := fun w' => True) (ds := []) #[false, false, false, false, false, false, false, false, false, false, false, false, false, false, false, false, false] (by kernel_rfl) rfl rfl trivial (fun hHeld => ?_)
    generalize w38.drew = w40 at H hHeld ⊢
    refine with_tabW tb14.tab21 tb14.bits21 (fun HT_ HW_ => ?_)
    refine pure_ (i := 0) (N := some 70) (v := ?_) (a' := ?_) #[true, false, false, false, false, false, false, false, false, false, false, false, false, false, false, false, false] rfl rfl (any_of HT_.out (by kernel_rfl)) (fun _ _ _ h => h) (Or.inl ⟨by rfl, ?_⟩) ?_ ?_
    rotate_left
    · intro w'
      go_simp
      with_reducible rfl
    rotate_left
    · simp only [Act.put, List.setIfInBounds_toArray, List.set_cons_zero, List.set_cons_succ, i64_w, i32_w]
      rfl
    refine pure_ (i := 1) (N := some 71) (v := ?_) (a' := ?_) #[true, true, false, false, false, false, false, false, false, false, false, false, false, false, false, false, false] rfl rfl (any_of HT_.out (by kernel_rfl)) (fun _ _ _ h => h) (Or.inl ⟨by rfl, ?_⟩) ?_ ?_
    rotate_left
    · intro w'
      go_simp
      with_reducible rfl
    rotate_left
    · simp only [Act.put, List.setIfInBounds_toArray, List.set_cons_zero, List.set_cons_succ, i64_w, i32_w]
      rfl
    refine pure_ (i := 2) (N := some 72) (v := ?_) (a' := ?_) #[true, true, true, false, false, false, false, false, false, false, false, false, false, false, false, false, false] rfl rfl (any_of HT_.out (by kernel_rfl)) (fun _ _ _ h => h) (Or.inl ⟨by rfl, ?_⟩) ?_ ?_
    rotate_left
    · intro w'
      go_simp
      with_reducible rfl
    rotate_left
    · simp only [Act.put, List.setIfInBounds_toArray, List.set_cons_zero, List.set_cons_succ, i64_w, i32_w]
      rfl
    refine pure_ (i := 3) (N := some 73) (v := ?_) (a' := ?_) #[true, true, true, true, false, false, false, false, false, false, false, false, false, false, false, false, false] rfl rfl (any_of HT_.out (by kernel_rfl)) (fun _ _ _ h => h) (Or.inl ⟨by rfl, ?_⟩) ?_ ?_
    rotate_left
    · intro w'
      go_simp
      with_reducible rfl
    rotate_left
    · simp only [Act.put, List.setIfInBounds_toArray, List.set_cons_zero, List.set_cons_succ, i64_w, i32_w]
      rfl
    refine pure_ (i := 4) (N := some 74) (v := ?_) (a' := ?_) #[true, true, true, true, true, false, false, false, false, false, false, false, false, false, false, false, false] rfl rfl (any_of HT_.out (by kernel_rfl)) (fun _ _ _ h => h) (Or.inl ⟨by rfl, ?_⟩) ?_ ?_
    rotate_left
    · intro w'
      go_simp
      with_reducible rfl
    rotate_left
    · simp only [Act.put, List.setIfInBounds_toArray, List.set_cons_zero, List.set_cons_succ, i64_w, i32_w]
      rfl
    refine pure_ (i := 5) (N := some 75) (v := ?_) (a' := ?_) #[true, true, true, true, true, true, false, false, false, false, false, false, false, false, false, false, false] rfl rfl (any_of HT_.out (by kernel_rfl)) (fun _ _ _ h => h) (Or.inl ⟨by rfl, ?_⟩) ?_ ?_
    rotate_left
    · intro w'
      go_simp
      with_reducible rfl
    rotate_left
    · simp only [Act.put, List.setIfInBounds_toArray, List.set_cons_zero, List.set_cons_succ, i64_w, i32_w]
      rfl
    refine pure_ (i := 6) (N := some 76) (v := ?_) (a' := ?_) #[true, true, true, true, true, true, true, false, false, false, false, false, false, false, false, false, false] rfl rfl (any_of HT_.out (by kernel_rfl)) (fun _ _ _ h => h) (Or.inl ⟨by rfl, ?_⟩) ?_ ?_
    rotate_left
    · intro w'
      go_simp
      with_reducible rfl
    rotate_left
    · simp only [Act.put, List.setIfInBounds_toArray, List.set_cons_zero, List.set_cons_succ, i64_w, i32_w]
      rfl
    refine pure_ (i := 7) (N := some 77) (v := undef) (a' := ?_) #[true, true, true, true, true, true, true, true, false, false, false, false, false, false, false, false, false] rfl rfl (any_of HT_.out (by kernel_rfl)) (fun _ _ _ h => h) (Or.inr ⟨by rfl, rfl⟩) ?_ ?_
    rotate_left
    · simp only [Act.put, List.setIfInBounds_toArray, List.set_cons_zero, List.set_cons_succ, i64_w, i32_w]
      rfl
    refine pure_ (i := 8) (N := some 78) (v := undef) (a' := ?_) #[true, true, true, true, true, true, true, true, true, false, false, false, false, false, false, false, false] rfl rfl (any_of HT_.out (by kernel_rfl)) (fun _ _ _ h => h) (Or.inr ⟨by rfl, rfl⟩) ?_ ?_
    rotate_left
    · simp only [Act.put, List.setIfInBounds_toArray, List.set_cons_zero, List.set_cons_succ, i64_w, i32_w]
      rfl
    refine pure_ (i := 9) (N := some 79) (v := undef) (a' := ?_) #[true, true, true, true, true, true, true, true, true, true, false, false, false, false, false, false, false] rfl rfl (any_of HT_.out (by kernel_rfl)) (fun _ _ _ h => h) (Or.inr ⟨by rfl, rfl⟩) ?_ ?_
    rotate_left
    · simp only [Act.put, List.setIfInBounds_toArray, List.set_cons_zero, List.set_cons_succ, i64_w, i32_w]
      rfl
    refine pure_ (i := 10) (N := some 80) (v := undef) (a' := ?_) #[true, true, true, true, true, true, true, true, true, true, true, false, false, false, false, false, false] rfl rfl (any_of HT_.out (by kernel_rfl)) (fun _ _ _ h => h) (Or.inr ⟨by rfl, rfl⟩) ?_ ?_
    rotate_left
    · simp only [Act.put, List.setIfInBounds_toArray, List.set_cons_zero, List.set_cons_succ, i64_w, i32_w]
      rfl
    refine pure_ (i := 11) (N := some 81) (v := undef) (a' := ?_) #[true, true, true, true, true, true, true, true, true, true, true, true, false, false, false, false, false] rfl rfl (any_of HT_.out (by kernel_rfl)) (fun _ _ _ h => h) (Or.inr ⟨by rfl, rfl⟩) ?_ ?_
    rotate_left
    · simp only [Act.put, List.setIfInBounds_toArray, List.set_cons_zero, List.set_cons_succ, i64_w, i32_w]
      rfl
    refine pure_ (i := 12) (N := some 82) (v := undef) (a' := ?_) #[true, true, true, true, true, true, true, true, true, true, true, true, true, false, false, false, false] rfl rfl (any_of HT_.out (by kernel_rfl)) (fun _ _ _ h => h) (Or.inr ⟨by rfl, rfl⟩) ?_ ?_
    rotate_left
    · simp only [Act.put, List.setIfInBounds_toArray, List.set_cons_zero, List.set_cons_succ, i64_w, i32_w]
      rfl
    refine pure_ (i := 13) (N := some 83) (v := undef) (a' := ?_) #[true, true, true, true, true, true, true, true, true, true, true, true, true, true, false, false, false] rfl rfl (any_of HT_.out (by kernel_rfl)) (fun _ _ _ h => h) (Or.inr ⟨by rfl, rfl⟩) ?_ ?_
    rotate_left
    · simp only [Act.put, List.setIfInBounds_toArray, List.set_cons_zero, List.set_cons_succ, i64_w, i32_w]
      rfl
    refine pure_ (i := 14) (N := some 84) (v := undef) (a' := ?_) #[true, true, true, true, true, true, true, true, true, true, true, true, true, true, true, false, false] rfl rfl (any_of HT_.out (by kernel_rfl)) (fun _ _ _ h => h) (Or.inr ⟨by rfl, rfl⟩) ?_ ?_
    rotate_left
    · simp only [Act.put, List.setIfInBounds_toArray, List.set_cons_zero, List.set_cons_succ, i64_w, i32_w]
      rfl
    refine pure_ (i := 15) (N := some 85) (v := ?_) (a' := ?_) #[true, true, true, true, true, true, true, true, true, true, true, true, true, true, true, true, false] rfl rfl (any_of HT_.out (by kernel_rfl)) (fun _ _ _ h => h) (Or.inl ⟨by rfl, ?_⟩) ?_ ?_
    rotate_left
    · intro w'
      go_simp
      with_reducible rfl
    rotate_left
    · simp only [Act.put, List.setIfInBounds_toArray, List.set_cons_zero, List.set_cons_succ, i64_w, i32_w]
      rfl
    refine pure_ (i := 16) (N := some 4) (v := ?_) (a' := ?_) #[true, true, true, true, true, true, true, true, true, true, true, true, true, true, true, true, true] rfl rfl (any_of HT_.out (by kernel_rfl)) (fun _ _ _ h => h) (Or.inl ⟨by rfl, ?_⟩) ?_ ?_
    rotate_left
    · intro w'
      go_simp
      with_reducible rfl
    rotate_left
    · simp only [Act.put, List.setIfInBounds_toArray, List.set_cons_zero, List.set_cons_succ, i64_w, i32_w]
      rfl
    refine done_ (done_of HT_.out (by kernel_rfl)) ?_
    try clear hHeld
    go_wp2
    go_ret
    exact ⟨rfl, H.below⟩
  · skip
    have u1 : decide (0 ≤ k1) = false := decide_eq_false hu
    have st42 := trivial
    go_upto_region 21 with (first
      | (clear st35; go_at_call 29; (with_reducible refine (IntQ (H.row _ m0) 0 false iy.out hfit.out).mono ?_); rintro e w34 ⟨rfl, hb⟩; replace H := H.call hb; clear hb; clear kgy_0 zgy_0 kgy_1 zgy_1 kgh_0 zgh_0 kgh_1 zgh_1 kgl_0 zgl_0 kgl_1 zgl_1 kgx_0 zgx_0 kgx_1 zgx_1; have kgy_0 : w34.cell? ⟨gy, 0, none⟩ = some (.bool (ng y)) := H.cell m0 0; have zgy_0 := H.frozen (g := gy) m0 0; have kgy_1 : w34.cell? ⟨gy, 1, none⟩ = some (.slice A28 (ln y) c29) := H.cell m0 1; have zgy_1 := H.frozen (g := gy) m0 1; have kgh_0 : w34.cell? ⟨gh, 0, none⟩ = some (.bool (ng hi)) := H.cell m1 0; have zgh_0 := H.frozen (g := gh) m1 0; have kgh_1 : w34.cell? ⟨gh, 1, none⟩ = some (.slice A19 (ln hi) c20) := H.cell m1 1; have zgh_1 := H.frozen (g := gh) m1 1; have kgl_0 : w34.cell? ⟨gl, 0, none⟩ = some (.bool (ng lo)) := H.cell m2 0; have zgl_0 := H.frozen (g := gl) m2 0; have kgl_1 : w34.cell? ⟨gl, 1, none⟩ = some (.slice A15 (ln lo) c16) := H.cell m2 1; have zgl_1 := H.frozen (g := gl) m2 1; have kgx_0 : w34.cell? ⟨gx, 0, none⟩ = some (.bool (ng n)) := H.cell m3 0; have zgx_0 := H.frozen (g := gx) m3 0; have kgx_1 : w34.cell? ⟨gx, 1, none⟩ = some (.slice A4 (ln n) c5) := H.cell m3 1; have zgx_1 := H.frozen (g := gx) m3 1)
      | (clear st42; go_at_call 34; (with_reducible refine (CmpQ (H.row _ m0) (H.row _ m2) (lim bY.out (by decide)) (lim blo.out (by decide)) k1 c1.out).mono ?_); rintro e w41 ⟨rfl, hb⟩; replace H := H.call hb; clear hb; clear kgy_0 zgy_0 kgy_1 zgy_1 kgh_0 zgh_0 kgh_1 zgh_1 kgl_0 zgl_0 kgl_1 zgl_1 kgx_0 zgx_0 kgx_1 zgx_1; have kgy_0 : w41.cell? ⟨gy, 0, none⟩ = some (.bool (ng y)) := H.cell m0 0; have zgy_0 := H.frozen (g := gy) m0 0; have kgy_1 : w41.cell? ⟨gy, 1, none⟩ = some (.slice A28 (ln y) c29) := H.cell m0 1; have zgy_1 := H.frozen (g := gy) m0 1; have kgh_0 : w41.cell? ⟨gh, 0, none⟩ = some (.bool (ng hi)) := H.cell m1 0; have zgh_0 := H.frozen (g := gh) m1 0; have kgh_1 : w41.cell? ⟨gh, 1, none⟩ = some (.slice A19 (ln hi) c20) := H.cell m1 1; have zgh_1 := H.frozen (g := gh) m1 1; have kgl_0 : w41.cell? ⟨gl, 0, none⟩ = some (.bool (ng lo)) := H.cell m2 0; have zgl_0 := H.frozen (g := gl) m2 0; have kgl_1 : w41.cell? ⟨gl, 1, none⟩ = some (.slice A15 (ln lo) c16) := H.cell m2 1; have zgl_1 := H.frozen (g := gl) m2 1; have kgx_0 : w41.cell? ⟨gx, 0, none⟩ = some (.bool (ng n)) := H.cell m3 0; have zgx_0 := H.frozen (g := gx) m3 0; have kgx_1 : w41.cell? ⟨gx, 1, none⟩ = some (.slice A4 (ln n) c5) := H.cell m3 1; have zgx_1 := H.frozen (g := gx) m3 1))
    (try simp only [Act.put, List.setIfInBounds_toArray, List.set_cons_zero, List.set_cons_succ])
    clear kgy_0 zgy_0 kgy_1 zgy_1 kgh_0 zgh_0 kgh_1 zgh_1 kgl_0 zgl_0 kgl_1 zgl_1 kgx_0 zgx_0 kgx_1 zgx_1
    replace H := H.drew
    refine start_ (n := 17) (S := fun w' => True) (ds := []) #[false, false, false, false, false, false, false, false, false, false, false, false, false, false, false, false, false] (by kernel_rfl) rfl rfl trivial (fun hHeld => ?_)
    generalize w41.drew = w43 at H hHeld ⊢
    refine with_tabW tb14.tab21 tb14.bits21 (fun HT_ HW_ => ?_)
    refine pure_ (i := 0) (N := some 70) (v := ?_) (a' := ?_) #[true, false, false, false, false, false, false, false, false, false, false, false, false, false, false, false, false] rfl rfl (any_of HT_.out (by kernel_rfl)) (fun _ _ _ h => h) (Or.inl ⟨by rfl, ?_⟩) ?_ ?_
    rotate_left
    · intro w'
      go_simp
      with_reducible rfl
    rotate_left
    · simp only [Act.put, List.setIfInBounds_toArray, List.set_cons_zero, List.set_cons_succ, i64_w, i32_w]
      rfl
    refine pure_ (i := 1) (N := some 71) (v := ?_) (a' := ?_) #[true, true, false, false, false, false, false, false, false, false, false, false, false, false, false, false, false] rfl rfl (any_of HT_.out (by kernel_rfl)) (fun _ _ _ h => h) (Or.inl ⟨by rfl, ?_⟩) ?_ ?_
    rotate_left
    · intro w'
      go_simp
      with_reducible rfl
    rotate_left
    · simp only [Act.put, List.setIfInBounds_toArray, List.set_cons_zero, List.set_cons_succ, i64_w, i32_w]
      rfl
    refine pure_ (i := 2) (N := some 72) (v := ?_) (a' := ?_) #[true, true, true, false, false, false, false, false, false, false, false, false, false, false, false, false, false] rfl rfl (any_of HT_.out (by kernel_rfl)) (fun _ _ _ h => h) (Or.inl ⟨by rfl, ?_⟩) ?_ ?_
    rotate_left
    · intro w'
      go_simp
      with_reducible rfl
    rotate_left
    · simp only [Act.put, List.setIfInBounds_toArray, List.set_cons_zero, List.set_cons_succ, i64_w, i32_w]
      rfl
    refine pure_ (i := 3) (N := some 73) (v := ?_) (a' := ?_) #[true, true, true, true, false, false, false, false, false, false, false, false, false, false, false, false, false] rfl rfl (any_of HT_.out (by kernel_rfl)) (fun _ _ _ h => h) (Or.inl ⟨by rfl, ?_⟩) ?_ ?_
    rotate_left
    · intro w'
      go_simp
      with_reducible rfl
    rotate_left
    · simp only [Act.put, List.setIfInBounds_toArray, List.set_cons_zero, List.set_cons_succ, i64_w, i32_w]
      rfl
    refine pure_ (i := 4) (N := some 74) (v := ?_) (a' := ?_) #[true, true, true, true, true, false, false, false, false, false, false, false, false, false, false, false, false] rfl rfl (any_of HT_.out (by kernel_rfl)) (fun _ _ _ h => h) (Or.inl ⟨by rfl, ?_⟩) ?_ ?_
    rotate_left
    · intro w'
      go_simp
      with_reducible rfl
    rotate_left
    · simp only [Act.put, List.setIfInBounds_toArray, List.set_cons_zero, List.set_cons_succ, i64_w, i32_w]
      rfl
    refine pure_ (i := 5) (N := some 75) (v := ?_) (a' := ?_) #[true, true, true, true, true, true, false, false, false, false, false, false, false, false, false, false, false] rfl rfl (any_of HT_.out (by kernel_rfl)) (fun _ _ _ h => h) (Or.inl ⟨by rfl, ?_⟩) ?_ ?_
    rotate_left
    · intro w'
      go_simp
      with_reducible rfl
    rotate_left
    · simp only [Act.put, List.setIfInBounds_toArray, List.set_cons_zero, List.set_cons_succ, i64_w, i32_w]
      rfl
    refine pure_ (i := 6) (N := some 76) (v := ?_) (a' := ?_) #[true, true, true, true, true, true, true, false, false, false, false, false, false, false, false, false, false] rfl rfl (any_of HT_.out (by kernel_rfl)) (fun _ _ _ h => h) (Or.inl ⟨by rfl, ?_⟩) ?_ ?_
    rotate_left
    · intro w'
      go_simp
      with_reducible rfl
    rotate_left
    · simp only [Act.put, List.setIfInBounds_toArray, List.set_cons_zero, List.set_cons_succ, i64_w, i32_w]
      rfl
    refine pure_ (i := 7) (N := some 77) (v := undef) (a' := ?_) #[true, true, true, true, true, true, true, true, false, false, false, false, false, false, false, false, false] rfl rfl (any_of HT_.out (by kernel_rfl)) (fun _ _ _ h => h) (Or.inr ⟨by rfl, rfl⟩) ?_ ?_
    rotate_left
    · simp only [Act.put, List.setIfInBounds_toArray, List.set_cons_zero, List.set_cons_succ, i64_w, i32_w]
      rfl
    refine pure_ (i := 8) (N := some 78) (v := undef) (a' := ?_) #[true, true, true, true, true, true, true, true, true, false, false, false, false, false, false, false, false] rfl rfl (any_of HT_.out (by kernel_rfl)) (fun _ _ _ h => h) (Or.inr ⟨by rfl, rfl⟩) ?_ ?_
    rotate_left
    · simp only [Act.put, List.setIfInBounds_toArray, List.set_cons_zero, List.set_cons_succ, i64_w, i32_w]
      rfl
    refine pure_ (i := 9) (N := some 79) (v := undef) (a' := ?_) #[true, true, true, true, true, true, true, true, true, true, false, false, false, false, false, false, false] rfl rfl (any_of HT_.out (by kernel_rfl)) (fun _ _ _ h => h) (Or.inr ⟨by rfl, rfl⟩) ?_ ?_
    rotate_left
    · simp only [Act.put, List.setIfInBounds_toArray, List.set_cons_zero, List.set_cons_succ, i64_w, i32_w]
      rfl
    refine pure_ (i := 10) (N := some 80) (v := undef) (a' := ?_) #[true, true, true, true, true, true, true, true, true, true, true, false, false, false, false, false, false] rfl rfl (any_of HT_.out (by kernel_rfl)) (fun _ _ _ h => h) (Or.inr ⟨by rfl, rfl⟩) ?_ ?_
    rotate_left
    · simp only [Act.put, List.setIfInBounds_toArray, List.set_cons_zero, List.set_cons_succ, i64_w, i32_w]
      rfl
    refine pure_ (i := 11) (N := some 81) (v := undef) (a' := ?_) #[true, true, true, true, true, true, true, true, true, true, true, true, false, false, false, false, false] rfl rfl (any_of HT_.out (by kernel_rfl)) (fun _ _ _ h => h) (Or.inr ⟨by rfl, rfl⟩) ?_ ?_
    rotate_left
    · simp only [Act.put, List.setIfInBounds_toArray, List.set_cons_zero, List.set_cons_succ, i64_w, i32_w]
      rfl
    refine pure_ (i := 12) (N := some 82) (v := undef) (a' := ?_) #[true, true, true, true, true, true, true, true, true, true, true, true, true, false, false, false, false] rfl rfl (any_of HT_.out (by kernel_rfl)) (fun _ _ _ h => h) (Or.inr ⟨by rfl, rfl⟩) ?_ ?_
    rotate_left
    · simp only [Act.put, List.setIfInBounds_toArray, List.set_cons_zero, List.set_cons_succ, i64_w, i32_w]
      rfl
    refine pure_ (i := 13) (N := some 83) (v := undef) (a' := ?_) #[true, true, true, true, true, true, true, true, true, true, true, true, true, true, false, false, false] rfl rfl (any_of HT_.out (by kernel_rfl)) (fun _ _ _ h => h) (Or.inr ⟨by rfl, rfl⟩) ?_ ?_
    rotate_left
    · simp only [Act.put, List.setIfInBounds_toArray, List.set_cons_zero, List.set_cons_succ, i64_w, i32_w]
      rfl
    refine pure_ (i := 14) (N := some 84) (v := undef) (a' := ?_) #[true, true, true, true, true, true, true, true, true, true, true, true, true, true, true, false, false] rfl rfl (any_of HT_.out (by kernel_rfl)) (fun _ _ _ h => h) (Or.inr ⟨by rfl, rfl⟩) ?_ ?_
    rotate_left
    · simp only [Act.put, List.setIfInBounds_toArray, List.set_cons_zero, List.set_cons_succ, i64_w, i32_w]
      rfl
    refine pure_ (i := 15) (N := some 85) (v := ?_) (a' := ?_) #[true, true, true, true, true, true, true, true, true, true, true, true, true, true, true, true, false] rfl rfl (any_of HT_.out (by kernel_rfl)) (fun _ _ _ h => h) (Or.inl ⟨by rfl, ?_⟩) ?_ ?_
    rotate_left
    · intro w'
      go_simp
      with_reducible rfl
    rotate_left
    · simp only [Act.put, List.setIfInBounds_toArray, List.set_cons_zero, List.set_cons_succ, i64_w, i32_w]
      rfl
    refine pure_ (i := 16) (N := some 4) (v := ?_) (a' := ?_) #[true, true, true, true, true, true, true, true, true, true, true, true, true, true, true, true, true] rfl rfl (any_of HT_.out (by kernel_rfl)) (fun _ _ _ h => h) (Or.inl ⟨by rfl, ?_⟩) ?_ ?_
    rotate_left
    · intro w'
      go_simp
      with_reducible rfl
    rotate_left
    · simp only [Act.put, List.setIfInBounds_toArray, List.set_cons_zero, List.set_cons_succ, i64_w, i32_w]
      rfl
    refine done_ (done_of HT_.out (by kernel_rfl)) ?_
    try clear hHeld
    go_wp2
    go_ret
    exact ⟨rfl, H.below⟩

theorem ints_walk (n : Int) (s : ByteArray) (w : World) (n0 : -9223372036854775808 ≤ n) (n1 : n ≤ 9223372036854775807) : Calls Try.prog 14 #[.int .i64 n, .string s] w (fun e W' => e = .returned (.bool true) ∧ Below w.heap.size w W') := by
  rcases Int.lt_trichotomy n 0 with h | h | h
  · skip
    by_cases h1 : 80 < s.size
    · exact ints_long_n n s w n0 n1 h h1
    · by_cases h2 : (pr s).2 = 0
      · have hp : pr s = ((pr s).1, 0) := by rw [← h2]
        by_cases h3 : fitsI (pr s).1 = true
        · exact ints_fit_n n s w n0 n1 h (by omega) _ ⟨hp⟩ h3
        · exact ints_un_n n s w n0 n1 h (by omega) _ ⟨hp⟩ (by simpa using h3)
      · exact ints_err_n n s w n0 n1 h (by omega) _ _ ⟨rfl⟩ (bne_iff_ne.mpr h2) (beq_eq_false_iff_ne.mpr h2)
  · skip
    by_cases h1 : 80 < s.size
    · exact ints_long_z n s w n0 n1 h h1
    · by_cases h2 : (pr s).2 = 0
      · have hp : pr s = ((pr s).1, 0) := by rw [← h2]
        by_cases h3 : fitsI (pr s).1 = true
        · exact ints_fit_z n s w n0 n1 h (by omega) _ ⟨hp⟩ h3
        · exact ints_un_z n s w n0 n1 h (by omega) _ ⟨hp⟩ (by simpa using h3)
      · exact ints_err_z n s w n0 n1 h (by omega) _ _ ⟨rfl⟩ (bne_iff_ne.mpr h2) (beq_eq_false_iff_ne.mpr h2)
  · skip
    by_cases h1 : 80 < s.size
    · exact ints_long_p n s w n0 n1 h h1
    · by_cases h2 : (pr s).2 = 0
      · have hp : pr s = ((pr s).1, 0) := by rw [← h2]
        by_cases h3 : fitsI (pr s).1 = true
        · exact ints_fit_p n s w n0 n1 h (by omega) _ ⟨hp⟩ h3
        · exact ints_un_p n s w n0 n1 h (by omega) _ ⟨hp⟩ (by simpa using h3)
      · exact ints_err_p n s w n0 n1 h (by omega) _ _ ⟨rfl⟩ (bne_iff_ne.mpr h2) (beq_eq_false_iff_ne.mpr h2)

end Go.Proofs.Ytdkapdgbfejgdaa
