/- The walk of the law BigintOrders. -/
import Derived.Test.YtdkapdgbfejgdaaTw
namespace Go.Proofs.Ytdkapdgbfejgdaa
open Go.RowKit Go.Proofs.YtdkapdgbfejgdaaW.PrintWords Go.Proofs.YtdkapdgbfejgdaaW.PrintLast Go.Proofs.YtdkapdgbfejgdaaW.PrintMore
set_option linter.unusedSimpArgs false
set_option linter.unusedVariables false

theorem cmp3_neg (x y : Int) : cmp3 y x = - cmp3 x y := by unfold cmp3; repeat' split <;> omega
theorem cmp3_sub (x y : Int) : sg (x - y) = cmp3 x y := by unfold cmp3 sg; repeat' split <;> omega
theorem cmp3_add (x y z : Int) : cmp3 (x + z) (y + z) = cmp3 x y := by unfold cmp3; repeat' split <;> omega
theorem cmp3_mul (x y z : Int) : cmp3 (x * z) (y * z) = cmp3 x y * sg z := by
  rcases Int.lt_trichotomy z 0 with h | h | h
  · have hs : sg z = -1 := by unfold sg; rw [if_pos h]
    rw [hs]
    rcases Int.lt_trichotomy x y with g | g | g
    · rw [cmp3_lt g, cmp3_gt (Int.mul_lt_mul_of_neg_right g h)]; rfl
    · rw [cmp3_eq g, cmp3_eq (by rw [g])]; rfl
    · rw [cmp3_gt g, cmp3_lt (Int.mul_lt_mul_of_neg_right g h)]; rfl
  · subst h; rw [Int.mul_zero, Int.mul_zero, cmp3_eq rfl]; show (0 : Int) = _ * 0; rw [Int.mul_zero]
  · have hs : sg z = 1 := by unfold sg; rw [if_neg (by omega), if_neg (by omega)]
    rw [hs, Int.mul_one]
    rcases Int.lt_trichotomy x y with g | g | g
    · rw [cmp3_lt g, cmp3_lt (Int.mul_lt_mul_of_pos_right g h)]
    · rw [cmp3_eq g, cmp3_eq (by rw [g])]
    · rw [cmp3_gt g, cmp3_gt (Int.mul_lt_mul_of_pos_right g h)]
theorem cmp3_range (x y : Int) : -1 ≤ cmp3 x y ∧ cmp3 x y ≤ 1 := by unfold cmp3; repeat' split <;> omega
theorem sg_range (x : Int) : -1 ≤ sg x ∧ sg x ≤ 1 := by unfold sg; repeat' split <;> omega

set_option maxHeartbeats 8000000 in
set_option maxRecDepth 100000 in
theorem ord_f (a b c : ByteArray) (w : World) (x y z u : Int) (q : Bool) (hAB : Aside0 (∀ w, Calls Try.prog 33 #[.string a, .string b] w (RetTwo w x y false))) (hC : Aside0 (∀ w, Calls Try.prog 33 #[.string c, .string ⟨#[48]⟩] w (RetTwo w z u q))) : Calls Try.prog 12 #[.string a, .string b, .string c] w (fun e W' => e = .returned (.bool true) ∧ Below w.heap.size w W') := by
  have hu25 := Try.underlying25
  have H := Sit.start w (fun _ => False)
  go_enter Try.func12, Try.ntmps12
  have st2 := trivial
  have st8 := trivial
  have st10 := trivial
  have st12 := trivial
  go_upto_region 4 with (first
    | (clear st2; go_at_call 22; (with_reducible refine (awake_ok _).mono ?_); rintro e wA ⟨rfl, hb⟩; replace H := H.call hb; clear hb)
    | (clear st8; go_at_call 33; (with_reducible refine (hAB.out _).mono ?_); rintro e w3 ⟨A4, c5, A6, c7, rfl, hr, hr2, hb⟩; replace H := (H.got (fresh_row hr) hb).more ((H.got (fresh_row hr2) hb).row _ m0); clear hr hr2 hb)
    | (clear st10; (with_reducible refine gate_dst (N := 7) rfl ?_); refine box_event ?hg (N := 7) ?hd (cs := #[.bool false, .slice none 0 0]) (t := 25) ?hr ?_; (case hd => rfl); (case hg => rfl); (case hr => first | (go_simp; done) | (go_simp; rfl)); intro gx hg w9 hbox hb; replace H := H.newbox hg hbox hb; clear hg hbox hb; have kgx_0 : w9.cell? ⟨gx, 0, none⟩ = some (.bool false) := H.cell m0 0; have zgx_0 := H.frozen (g := gx) m0 0; have kgx_1 : w9.cell? ⟨gx, 1, none⟩ = some (.slice none 0 0) := H.cell m0 1; have zgx_1 := H.frozen (g := gx) m0 1)
    | (clear st12; (with_reducible refine gate_dst (N := 8) rfl ?_); refine box_event ?hg (N := 8) ?hd (cs := #[.bool false, .slice none 0 0]) (t := 25) ?hr ?_; (case hd => rfl); (case hg => rfl); (case hr => first | (go_simp; done) | (go_simp; rfl)); intro gy hg w11 hbox hb; replace H := H.newbox hg hbox hb; clear hg hbox hb; clear kgx_0 zgx_0 kgx_1 zgx_1; have kgy_0 : w11.cell? ⟨gy, 0, none⟩ = some (.bool false) := H.cell m0 0; have zgy_0 := H.frozen (g := gy) m0 0; have kgy_1 : w11.cell? ⟨gy, 1, none⟩ = some (.slice none 0 0) := H.cell m0 1; have zgy_1 := H.frozen (g := gy) m0 1; have kgx_0 : w11.cell? ⟨gx, 0, none⟩ = some (.bool false) := H.cell m1 0; have zgx_0 := H.frozen (g := gx) m1 0; have kgx_1 : w11.cell? ⟨gx, 1, none⟩ = some (.slice none 0 0) := H.cell m1 1; have zgx_1 := H.frozen (g := gx) m1 1; have ne_gy_gx := H.ne (g := gy) (g' := gx) 0 1 rfl rfl (by decide); have ne_gx_gy := ne_gy_gx.symm))
  (try simp only [Act.put, List.setIfInBounds_toArray, List.set_cons_zero, List.set_cons_succ])
  replace H := ((((H.setn [_] 0 (.bool (ng x)) rfl).setn [_] 1 (.slice A4 (ln x) c5) rfl).setn [] 0 (.bool (ng y)) rfl).setn [] 1 (.slice A6 (ln y) c7) rfl)
  clear kgy_0 zgy_0 kgy_1 zgy_1 kgx_0 zgx_0 kgx_1 zgx_1
  generalize ((((w11.setCell ⟨gx, 0, none⟩ (.bool (ng x))).setCell ⟨gx, 1, none⟩ (.slice A4 (ln x) c5)).setCell ⟨gy, 0, none⟩ (.bool (ng y))).setCell ⟨gy, 1, none⟩ (.slice A6 (ln y) c7)) = w13 at H ⊢
  have kgy_0 : w13.cell? ⟨gy, 0, none⟩ = some (.bool (ng y)) := H.cell m0 0
  have zgy_0 := H.frozen (g := gy) m0 0
  have kgy_1 : w13.cell? ⟨gy, 1, none⟩ = some (.slice A6 (ln y) c7) := H.cell m0 1
  have zgy_1 := H.frozen (g := gy) m0 1
  have kgx_0 : w13.cell? ⟨gx, 0, none⟩ = some (.bool (ng x)) := H.cell m1 0
  have zgx_0 := H.frozen (g := gx) m1 0
  have kgx_1 : w13.cell? ⟨gx, 1, none⟩ = some (.slice A4 (ln x) c5) := H.cell m1 1
  have zgx_1 := H.frozen (g := gx) m1 1
  have st19 := trivial
  have st21 := trivial
  have st23 := trivial
  go_upto_region 5 with (first
    | (clear st19; go_at_call 33; (with_reducible refine (hC.out _).mono ?_); rintro e w14 ⟨A15, c16, A17, c18, rfl, hr, hr2, hb⟩; replace H := (H.got (fresh_row hr) hb).more ((H.got (fresh_row hr2) hb).row _ m0); clear hr hr2 hb; clear kgy_0 zgy_0 kgy_1 zgy_1 kgx_0 zgx_0 kgx_1 zgx_1; have kgy_0 : w14.cell? ⟨gy, 0, none⟩ = some (.bool (ng y)) := H.cell m0 0; have zgy_0 := H.frozen (g := gy) m0 0; have kgy_1 : w14.cell? ⟨gy, 1, none⟩ = some (.slice A6 (ln y) c7) := H.cell m0 1; have zgy_1 := H.frozen (g := gy) m0 1; have kgx_0 : w14.cell? ⟨gx, 0, none⟩ = some (.bool (ng x)) := H.cell m1 0; have zgx_0 := H.frozen (g := gx) m1 0; have kgx_1 : w14.cell? ⟨gx, 1, none⟩ = some (.slice A4 (ln x) c5) := H.cell m1 1; have zgx_1 := H.frozen (g := gx) m1 1)
    | (clear st21; (with_reducible refine gate_dst (N := 10) rfl ?_); refine box_event ?hg (N := 10) ?hd (cs := #[.bool false, .slice none 0 0]) (t := 25) ?hr ?_; (case hd => rfl); (case hg => rfl); (case hr => first | (go_simp; done) | (go_simp; rfl)); intro gz hg w20 hbox hb; replace H := H.newbox hg hbox hb; clear hg hbox hb; clear kgy_0 zgy_0 kgy_1 zgy_1 kgx_0 zgx_0 kgx_1 zgx_1; have kgz_0 : w20.cell? ⟨gz, 0, none⟩ = some (.bool false) := H.cell m0 0; have zgz_0 := H.frozen (g := gz) m0 0; have kgz_1 : w20.cell? ⟨gz, 1, none⟩ = some (.slice none 0 0) := H.cell m0 1; have zgz_1 := H.frozen (g := gz) m0 1; have kgy_0 : w20.cell? ⟨gy, 0, none⟩ = some (.bool (ng y)) := H.cell m1 0; have zgy_0 := H.frozen (g := gy) m1 0; have kgy_1 : w20.cell? ⟨gy, 1, none⟩ = some (.slice A6 (ln y) c7) := H.cell m1 1; have zgy_1 := H.frozen (g := gy) m1 1; have kgx_0 : w20.cell? ⟨gx, 0, none⟩ = some (.bool (ng x)) := H.cell m2 0; have zgx_0 := H.frozen (g := gx) m2 0; have kgx_1 : w20.cell? ⟨gx, 1, none⟩ = some (.slice A4 (ln x) c5) := H.cell m2 1; have zgx_1 := H.frozen (g := gx) m2 1; have ne_gz_gy := H.ne (g := gz) (g' := gy) 0 1 rfl rfl (by decide); have ne_gy_gz := ne_gz_gy.symm; have ne_gz_gx := H.ne (g := gz) (g' := gx) 0 2 rfl rfl (by decide); have ne_gx_gz := ne_gz_gx.symm)
    | (clear st23; (with_reducible refine gate_dst (N := 11) rfl ?_); refine box_event ?hg (N := 11) ?hd (cs := #[.bool false, .slice none 0 0]) (t := 25) ?hr ?_; (case hd => rfl); (case hg => rfl); (case hr => first | (go_simp; done) | (go_simp; rfl)); intro gu hg w22 hbox hb; replace H := H.newbox hg hbox hb; clear hg hbox hb; clear kgz_0 zgz_0 kgz_1 zgz_1 kgy_0 zgy_0 kgy_1 zgy_1 kgx_0 zgx_0 kgx_1 zgx_1; have kgu_0 : w22.cell? ⟨gu, 0, none⟩ = some (.bool false) := H.cell m0 0; have zgu_0 := H.frozen (g := gu) m0 0; have kgu_1 : w22.cell? ⟨gu, 1, none⟩ = some (.slice none 0 0) := H.cell m0 1; have zgu_1 := H.frozen (g := gu) m0 1; have kgz_0 : w22.cell? ⟨gz, 0, none⟩ = some (.bool false) := H.cell m1 0; have zgz_0 := H.frozen (g := gz) m1 0; have kgz_1 : w22.cell? ⟨gz, 1, none⟩ = some (.slice none 0 0) := H.cell m1 1; have zgz_1 := H.frozen (g := gz) m1 1; have kgy_0 : w22.cell? ⟨gy, 0, none⟩ = some (.bool (ng y)) := H.cell m2 0; have zgy_0 := H.frozen (g := gy) m2 0; have kgy_1 : w22.cell? ⟨gy, 1, none⟩ = some (.slice A6 (ln y) c7) := H.cell m2 1; have zgy_1 := H.frozen (g := gy) m2 1; have kgx_0 : w22.cell? ⟨gx, 0, none⟩ = some (.bool (ng x)) := H.cell m3 0; have zgx_0 := H.frozen (g := gx) m3 0; have kgx_1 : w22.cell? ⟨gx, 1, none⟩ = some (.slice A4 (ln x) c5) := H.cell m3 1; have zgx_1 := H.frozen (g := gx) m3 1; have ne_gu_gz := H.ne (g := gu) (g' := gz) 0 1 rfl rfl (by decide); have ne_gz_gu := ne_gu_gz.symm; have ne_gu_gy := H.ne (g := gu) (g' := gy) 0 2 rfl rfl (by decide); have ne_gy_gu := ne_gu_gy.symm; have ne_gu_gx := H.ne (g := gu) (g' := gx) 0 3 rfl rfl (by decide); have ne_gx_gu := ne_gu_gx.symm))
  (try simp only [Act.put, List.setIfInBounds_toArray, List.set_cons_zero, List.set_cons_succ])
  replace H := ((((H.setn [_] 0 (.bool (ng z)) rfl).setn [_] 1 (.slice A15 (ln z) c16) rfl).setn [] 0 (.bool (ng u)) rfl).setn [] 1 (.slice A17 (ln u) c18) rfl)
  clear kgu_0 zgu_0 kgu_1 zgu_1 kgz_0 zgz_0 kgz_1 zgz_1 kgy_0 zgy_0 kgy_1 zgy_1 kgx_0 zgx_0 kgx_1 zgx_1
  generalize ((((w22.setCell ⟨gz, 0, none⟩ (.bool (ng z))).setCell ⟨gz, 1, none⟩ (.slice A15 (ln z) c16)).setCell ⟨gu, 0, none⟩ (.bool (ng u))).setCell ⟨gu, 1, none⟩ (.slice A17 (ln u) c18)) = w24 at H ⊢
  have kgu_0 : w24.cell? ⟨gu, 0, none⟩ = some (.bool (ng u)) := H.cell m0 0
  have zgu_0 := H.frozen (g := gu) m0 0
  have kgu_1 : w24.cell? ⟨gu, 1, none⟩ = some (.slice A17 (ln u) c18) := H.cell m0 1
  have zgu_1 := H.frozen (g := gu) m0 1
  have kgz_0 : w24.cell? ⟨gz, 0, none⟩ = some (.bool (ng z)) := H.cell m1 0
  have zgz_0 := H.frozen (g := gz) m1 0
  have kgz_1 : w24.cell? ⟨gz, 1, none⟩ = some (.slice A15 (ln z) c16) := H.cell m1 1
  have zgz_1 := H.frozen (g := gz) m1 1
  have kgy_0 : w24.cell? ⟨gy, 0, none⟩ = some (.bool (ng y)) := H.cell m2 0
  have zgy_0 := H.frozen (g := gy) m2 0
  have kgy_1 : w24.cell? ⟨gy, 1, none⟩ = some (.slice A6 (ln y) c7) := H.cell m2 1
  have zgy_1 := H.frozen (g := gy) m2 1
  have kgx_0 : w24.cell? ⟨gx, 0, none⟩ = some (.bool (ng x)) := H.cell m3 0
  have zgx_0 := H.frozen (g := gx) m3 0
  have kgx_1 : w24.cell? ⟨gx, 1, none⟩ = some (.slice A4 (ln x) c5) := H.cell m3 1
  have zgx_1 := H.frozen (g := gx) m3 1
  go_wp2
  go_ret
  exact ⟨rfl, H.below⟩

set_option maxHeartbeats 8000000 in
set_option maxRecDepth 100000 in
theorem ord_tf (a b c : ByteArray) (w : World) (x y z u : Int) (hAB : Aside0 (∀ w, Calls Try.prog 33 #[.string a, .string b] w (RetTwo w x y true))) (hC : Aside0 (∀ w, Calls Try.prog 33 #[.string c, .string ⟨#[48]⟩] w (RetTwo w z u false))) : Calls Try.prog 12 #[.string a, .string b, .string c] w (fun e W' => e = .returned (.bool true) ∧ Below w.heap.size w W') := by
  have hu25 := Try.underlying25
  have H := Sit.start w (fun _ => False)
  go_enter Try.func12, Try.ntmps12
  have st2 := trivial
  have st8 := trivial
  have st10 := trivial
  have st12 := trivial
  go_upto_region 4 with (first
    | (clear st2; go_at_call 22; (with_reducible refine (awake_ok _).mono ?_); rintro e wA ⟨rfl, hb⟩; replace H := H.call hb; clear hb)
    | (clear st8; go_at_call 33; (with_reducible refine (hAB.out _).mono ?_); rintro e w3 ⟨A4, c5, A6, c7, rfl, hr, hr2, hb⟩; replace H := (H.got (fresh_row hr) hb).more ((H.got (fresh_row hr2) hb).row _ m0); clear hr hr2 hb)
    | (clear st10; (with_reducible refine gate_dst (N := 7) rfl ?_); refine box_event ?hg (N := 7) ?hd (cs := #[.bool false, .slice none 0 0]) (t := 25) ?hr ?_; (case hd => rfl); (case hg => rfl); (case hr => first | (go_simp; done) | (go_simp; rfl)); intro gx hg w9 hbox hb; replace H := H.newbox hg hbox hb; clear hg hbox hb; have kgx_0 : w9.cell? ⟨gx, 0, none⟩ = some (.bool false) := H.cell m0 0; have zgx_0 := H.frozen (g := gx) m0 0; have kgx_1 : w9.cell? ⟨gx, 1, none⟩ = some (.slice none 0 0) := H.cell m0 1; have zgx_1 := H.frozen (g := gx) m0 1)
    | (clear st12; (with_reducible refine gate_dst (N := 8) rfl ?_); refine box_event ?hg (N := 8) ?hd (cs := #[.bool false, .slice none 0 0]) (t := 25) ?hr ?_; (case hd => rfl); (case hg => rfl); (case hr => first | (go_simp; done) | (go_simp; rfl)); intro gy hg w11 hbox hb; replace H := H.newbox hg hbox hb; clear hg hbox hb; clear kgx_0 zgx_0 kgx_1 zgx_1; have kgy_0 : w11.cell? ⟨gy, 0, none⟩ = some (.bool false) := H.cell m0 0; have zgy_0 := H.frozen (g := gy) m0 0; have kgy_1 : w11.cell? ⟨gy, 1, none⟩ = some (.slice none 0 0) := H.cell m0 1; have zgy_1 := H.frozen (g := gy) m0 1; have kgx_0 : w11.cell? ⟨gx, 0, none⟩ = some (.bool false) := H.cell m1 0; have zgx_0 := H.frozen (g := gx) m1 0; have kgx_1 : w11.cell? ⟨gx, 1, none⟩ = some (.slice none 0 0) := H.cell m1 1; have zgx_1 := H.frozen (g := gx) m1 1; have ne_gy_gx := H.ne (g := gy) (g' := gx) 0 1 rfl rfl (by decide); have ne_gx_gy := ne_gy_gx.symm))
  (try simp only [Act.put, List.setIfInBounds_toArray, List.set_cons_zero, List.set_cons_succ])
  replace H := ((((H.setn [_] 0 (.bool (ng x)) rfl).setn [_] 1 (.slice A4 (ln x) c5) rfl).setn [] 0 (.bool (ng y)) rfl).setn [] 1 (.slice A6 (ln y) c7) rfl)
  clear kgy_0 zgy_0 kgy_1 zgy_1 kgx_0 zgx_0 kgx_1 zgx_1
  generalize ((((w11.setCell ⟨gx, 0, none⟩ (.bool (ng x))).setCell ⟨gx, 1, none⟩ (.slice A4 (ln x) c5)).setCell ⟨gy, 0, none⟩ (.bool (ng y))).setCell ⟨gy, 1, none⟩ (.slice A6 (ln y) c7)) = w13 at H ⊢
  have kgy_0 : w13.cell? ⟨gy, 0, none⟩ = some (.bool (ng y)) := H.cell m0 0
  have zgy_0 := H.frozen (g := gy) m0 0
  have kgy_1 : w13.cell? ⟨gy, 1, none⟩ = some (.slice A6 (ln y) c7) := H.cell m0 1
  have zgy_1 := H.frozen (g := gy) m0 1
  have kgx_0 : w13.cell? ⟨gx, 0, none⟩ = some (.bool (ng x)) := H.cell m1 0
  have zgx_0 := H.frozen (g := gx) m1 0
  have kgx_1 : w13.cell? ⟨gx, 1, none⟩ = some (.slice A4 (ln x) c5) := H.cell m1 1
  have zgx_1 := H.frozen (g := gx) m1 1
  have st19 := trivial
  have st21 := trivial
  have st23 := trivial
  go_upto_region 5 with (first
    | (clear st19; go_at_call 33; (with_reducible refine (hC.out _).mono ?_); rintro e w14 ⟨A15, c16, A17, c18, rfl, hr, hr2, hb⟩; replace H := (H.got (fresh_row hr) hb).more ((H.got (fresh_row hr2) hb).row _ m0); clear hr hr2 hb; clear kgy_0 zgy_0 kgy_1 zgy_1 kgx_0 zgx_0 kgx_1 zgx_1; have kgy_0 : w14.cell? ⟨gy, 0, none⟩ = some (.bool (ng y)) := H.cell m0 0; have zgy_0 := H.frozen (g := gy) m0 0; have kgy_1 : w14.cell? ⟨gy, 1, none⟩ = some (.slice A6 (ln y) c7) := H.cell m0 1; have zgy_1 := H.frozen (g := gy) m0 1; have kgx_0 : w14.cell? ⟨gx, 0, none⟩ = some (.bool (ng x)) := H.cell m1 0; have zgx_0 := H.frozen (g := gx) m1 0; have kgx_1 : w14.cell? ⟨gx, 1, none⟩ = some (.slice A4 (ln x) c5) := H.cell m1 1; have zgx_1 := H.frozen (g := gx) m1 1)
    | (clear st21; (with_reducible refine gate_dst (N := 10) rfl ?_); refine box_event ?hg (N := 10) ?hd (cs := #[.bool false, .slice none 0 0]) (t := 25) ?hr ?_; (case hd => rfl); (case hg => rfl); (case hr => first | (go_simp; done) | (go_simp; rfl)); intro gz hg w20 hbox hb; replace H := H.newbox hg hbox hb; clear hg hbox hb; clear kgy_0 zgy_0 kgy_1 zgy_1 kgx_0 zgx_0 kgx_1 zgx_1; have kgz_0 : w20.cell? ⟨gz, 0, none⟩ = some (.bool false) := H.cell m0 0; have zgz_0 := H.frozen (g := gz) m0 0; have kgz_1 : w20.cell? ⟨gz, 1, none⟩ = some (.slice none 0 0) := H.cell m0 1; have zgz_1 := H.frozen (g := gz) m0 1; have kgy_0 : w20.cell? ⟨gy, 0, none⟩ = some (.bool (ng y)) := H.cell m1 0; have zgy_0 := H.frozen (g := gy) m1 0; have kgy_1 : w20.cell? ⟨gy, 1, none⟩ = some (.slice A6 (ln y) c7) := H.cell m1 1; have zgy_1 := H.frozen (g := gy) m1 1; have kgx_0 : w20.cell? ⟨gx, 0, none⟩ = some (.bool (ng x)) := H.cell m2 0; have zgx_0 := H.frozen (g := gx) m2 0; have kgx_1 : w20.cell? ⟨gx, 1, none⟩ = some (.slice A4 (ln x) c5) := H.cell m2 1; have zgx_1 := H.frozen (g := gx) m2 1; have ne_gz_gy := H.ne (g := gz) (g' := gy) 0 1 rfl rfl (by decide); have ne_gy_gz := ne_gz_gy.symm; have ne_gz_gx := H.ne (g := gz) (g' := gx) 0 2 rfl rfl (by decide); have ne_gx_gz := ne_gz_gx.symm)
    | (clear st23; (with_reducible refine gate_dst (N := 11) rfl ?_); refine box_event ?hg (N := 11) ?hd (cs := #[.bool false, .slice none 0 0]) (t := 25) ?hr ?_; (case hd => rfl); (case hg => rfl); (case hr => first | (go_simp; done) | (go_simp; rfl)); intro gu hg w22 hbox hb; replace H := H.newbox hg hbox hb; clear hg hbox hb; clear kgz_0 zgz_0 kgz_1 zgz_1 kgy_0 zgy_0 kgy_1 zgy_1 kgx_0 zgx_0 kgx_1 zgx_1; have kgu_0 : w22.cell? ⟨gu, 0, none⟩ = some (.bool false) := H.cell m0 0; have zgu_0 := H.frozen (g := gu) m0 0; have kgu_1 : w22.cell? ⟨gu, 1, none⟩ = some (.slice none 0 0) := H.cell m0 1; have zgu_1 := H.frozen (g := gu) m0 1; have kgz_0 : w22.cell? ⟨gz, 0, none⟩ = some (.bool false) := H.cell m1 0; have zgz_0 := H.frozen (g := gz) m1 0; have kgz_1 : w22.cell? ⟨gz, 1, none⟩ = some (.slice none 0 0) := H.cell m1 1; have zgz_1 := H.frozen (g := gz) m1 1; have kgy_0 : w22.cell? ⟨gy, 0, none⟩ = some (.bool (ng y)) := H.cell m2 0; have zgy_0 := H.frozen (g := gy) m2 0; have kgy_1 : w22.cell? ⟨gy, 1, none⟩ = some (.slice A6 (ln y) c7) := H.cell m2 1; have zgy_1 := H.frozen (g := gy) m2 1; have kgx_0 : w22.cell? ⟨gx, 0, none⟩ = some (.bool (ng x)) := H.cell m3 0; have zgx_0 := H.frozen (g := gx) m3 0; have kgx_1 : w22.cell? ⟨gx, 1, none⟩ = some (.slice A4 (ln x) c5) := H.cell m3 1; have zgx_1 := H.frozen (g := gx) m3 1; have ne_gu_gz := H.ne (g := gu) (g' := gz) 0 1 rfl rfl (by decide); have ne_gz_gu := ne_gu_gz.symm; have ne_gu_gy := H.ne (g := gu) (g' := gy) 0 2 rfl rfl (by decide); have ne_gy_gu := ne_gu_gy.symm; have ne_gu_gx := H.ne (g := gu) (g' := gx) 0 3 rfl rfl (by decide); have ne_gx_gu := ne_gu_gx.symm))
  (try simp only [Act.put, List.setIfInBounds_toArray, List.set_cons_zero, List.set_cons_succ])
  replace H := ((((H.setn [_] 0 (.bool (ng z)) rfl).setn [_] 1 (.slice A15 (ln z) c16) rfl).setn [] 0 (.bool (ng u)) rfl).setn [] 1 (.slice A17 (ln u) c18) rfl)
  clear kgu_0 zgu_0 kgu_1 zgu_1 kgz_0 zgz_0 kgz_1 zgz_1 kgy_0 zgy_0 kgy_1 zgy_1 kgx_0 zgx_0 kgx_1 zgx_1
  generalize ((((w22.setCell ⟨gz, 0, none⟩ (.bool (ng z))).setCell ⟨gz, 1, none⟩ (.slice A15 (ln z) c16)).setCell ⟨gu, 0, none⟩ (.bool (ng u))).setCell ⟨gu, 1, none⟩ (.slice A17 (ln u) c18)) = w24 at H ⊢
  have kgu_0 : w24.cell? ⟨gu, 0, none⟩ = some (.bool (ng u)) := H.cell m0 0
  have zgu_0 := H.frozen (g := gu) m0 0
  have kgu_1 : w24.cell? ⟨gu, 1, none⟩ = some (.slice A17 (ln u) c18) := H.cell m0 1
  have zgu_1 := H.frozen (g := gu) m0 1
  have kgz_0 : w24.cell? ⟨gz, 0, none⟩ = some (.bool (ng z)) := H.cell m1 0
  have zgz_0 := H.frozen (g := gz) m1 0
  have kgz_1 : w24.cell? ⟨gz, 1, none⟩ = some (.slice A15 (ln z) c16) := H.cell m1 1
  have zgz_1 := H.frozen (g := gz) m1 1
  have kgy_0 : w24.cell? ⟨gy, 0, none⟩ = some (.bool (ng y)) := H.cell m2 0
  have zgy_0 := H.frozen (g := gy) m2 0
  have kgy_1 : w24.cell? ⟨gy, 1, none⟩ = some (.slice A6 (ln y) c7) := H.cell m2 1
  have zgy_1 := H.frozen (g := gy) m2 1
  have kgx_0 : w24.cell? ⟨gx, 0, none⟩ = some (.bool (ng x)) := H.cell m3 0
  have zgx_0 := H.frozen (g := gx) m3 0
  have kgx_1 : w24.cell? ⟨gx, 1, none⟩ = some (.slice A4 (ln x) c5) := H.cell m3 1
  have zgx_1 := H.frozen (g := gx) m3 1
  go_wp2
  go_ret
  exact ⟨rfl, H.below⟩

def tb12.T8 : Bool × List (List Nat × List Nat) := (true, [([], []), ([], []), ([], []), ([1, 2], [1, 2]), ([3], [3]), ([0, 4], [0, 4]), ([5, 3], [5]), ([6], [6]), ([6], [6]), ([6], [6]), ([8, 9, 6, 6], [6, 8, 9]), ([10, 10, 6], [6, 10]), ([7, 11, 6], [6, 7, 11]), ([6, 12], [6, 12]), ([13, 11], [13]), ([14], [14]), ([14], [14]), ([14], [14]), ([16, 17, 14, 14], [14, 16, 17]), ([14], [14]), ([14], [14]), ([19, 20, 18, 14], [14, 19, 20]), ([18, 21, 21, 14], [14, 18, 21]), ([15, 22, 14], [14, 15, 22]), ([14, 23], [14, 23]), ([24, 22], [24]), ([25], [25]), ([25], [25]), ([26, 27, 25, 25], [25, 26, 27]), ([28, 25], [25, 28]), ([25, 29], [25, 29])])
def tb12.B8 : List Nat := [0, 0, 0, 6, 14, 31, 63, 127, 127, 127, 895, 1919, 4095, 8191, 16383, 32767, 32767, 32767, 229375, 32767, 32767, 2064383, 4161535, 8388607, 16777215, 33554431, 67108863, 67108863, 268435455, 536870911, 1073741823]
theorem tb12.tab8 : rtab .any (opsOf Try.f12 8) = tb12.T8 := by kernel_rfl
theorem tb12.bits8 : waitsOk tb12.T8.2 tb12.B8 = true := by kernel_rfl
def tb12.T10 : Bool × List (List Nat × List Nat) := (true, [([], []), ([], []), ([0, 1], [0, 1]), ([], []), ([], []), ([3, 4, 2], [3, 4]), ([2, 5, 5], [2, 5]), ([], []), ([], []), ([8, 6], [8]), ([7, 9], [7, 9]), ([6, 10], [6, 10]), ([11, 9, 0, 1, 2, 3, 4, 5, 6, 7, 8, 9, 10, 11], [11])])
def tb12.B10 : List Nat := [0, 0, 3, 0, 0, 31, 63, 0, 0, 383, 1023, 2047, 4095]
theorem tb12.tab10 : rtab .any (opsOf Try.f12 10) = tb12.T10 := by kernel_rfl
theorem tb12.bits10 : waitsOk tb12.T10.2 tb12.B10 = true := by kernel_rfl

set_option maxHeartbeats 8000000 in
set_option maxRecDepth 100000 in
theorem ord_t (a b c : ByteArray) (w : World) (x y z u : Int) (bx : Aside0 (ln x ≤ 10)) (bY : Aside0 (ln y ≤ 10)) (bz : Aside0 (ln z ≤ 10)) (hAB : Aside0 (∀ w, Calls Try.prog 33 #[.string a, .string b] w (RetTwo w x y true))) (hC : Aside0 (∀ w, Calls Try.prog 33 #[.string c, .string ⟨#[48]⟩] w (RetTwo w z u true))) : Calls Try.prog 12 #[.string a, .string b, .string c] w (fun e W' => e = .returned (.bool true) ∧ Below w.heap.size w W') := by
  obtain ⟨k, ek⟩ : ∃ k, cmp3 x y = k := ⟨_, rfl⟩
  obtain ⟨v, ev⟩ : ∃ v, sg z = v := ⟨_, rfl⟩
  obtain ⟨kk, ekk⟩ : ∃ k, cmp3 y x = k := ⟨_, rfl⟩
  obtain ⟨r, er⟩ : ∃ r, cmp3 (x * z) (y * z) = r := ⟨_, rfl⟩
  have rk := cmp3_range x y
  have rv := sg_range z
  have rkk := cmp3_range y x
  have rr := cmp3_range (x * z) (y * z)
  rw [ek] at rk
  rw [ev] at rv
  rw [ekk] at rkk
  rw [er] at rr
  have nk : -kk = k := by rw [← ekk, cmp3_neg x y, ek]; omega
  have er2 : r = k * v := by rw [← er, ← ek, ← ev]; exact cmp3_mul x y z
  have w1 : wrap64 (-kk) = k := by rw [nk]; unfold wrap64; omega
  have w2 : wrap64 (k * v) = k * v := by rw [← er2]; unfold wrap64; omega
  have t1 : (k != wrap64 (-kk)) = false := by rw [w1]; simp
  have t1b : (k == wrap64 (-kk)) = true := by rw [w1]; simp
  have t1c : (k != -kk) = false := by rw [nk]; simp
  have t6 : (r == wrap64 (k * v)) = true := by rw [w2, er2]; simp
  have t2 : (k == -kk) = true := by rw [nk]; simp
  have t3 : (k != k) = false := by simp
  have t4 : (r == k * v) = true := by rw [er2]; simp
  have t5 : (r != k * v) = false := by rw [er2]; simp
  obtain ⟨rk1, rk2⟩ := rk
  obtain ⟨rv1, rv2⟩ := rv
  obtain ⟨rkk1, rkk2⟩ := rkk
  have rm1 : -1 ≤ k * v := by rw [← er2]; exact rr.1
  have rm2 : k * v ≤ 1 := by rw [← er2]; exact rr.2
  clear er2 nk rr w1 w2
  obtain ⟨s1, es1⟩ : ∃ v : Int, x + z = v := ⟨_, rfl⟩
  obtain ⟨s2, es2⟩ : ∃ v : Int, y + z = v := ⟨_, rfl⟩
  obtain ⟨p1, ep1⟩ : ∃ v : Int, x * z = v := ⟨_, rfl⟩
  obtain ⟨p2, ep2⟩ : ∃ v : Int, y * z = v := ⟨_, rfl⟩
  obtain ⟨d1, ed1⟩ : ∃ v : Int, x - y = v := ⟨_, rfl⟩
  have hs1 := Aside0.mk es1
  have bs1 := Aside0.mk (bAdd bx.out bz.out es1)
  have hs2 := Aside0.mk es2
  have bs2 := Aside0.mk (bAdd bY.out bz.out es2)
  have hp1 := Aside0.mk ep1
  have bp1 := Aside0.mk (bMul bx.out bz.out ep1)
  have hp2 := Aside0.mk ep2
  have bp2 := Aside0.mk (bMul bY.out bz.out ep2)
  have hd1 := Aside0.mk ed1
  have bd1 := Aside0.mk (bSub bx.out bY.out ed1)
  have hk := Aside0.mk ek
  have hkk := Aside0.mk ekk
  have hv := Aside0.mk ev
  have k1 := Aside0.mk (show sg d1 = k by rw [← ed1, cmp3_sub, ek])
  have k2 := Aside0.mk (show cmp3 s1 s2 = k by rw [← es1, ← es2, cmp3_add, ek])
  have k3 := Aside0.mk (show cmp3 x x = 0 from cmp3_eq rfl)
  have k4 := Aside0.mk (show cmp3 p1 p2 = r by rw [← ep1, ← ep2, er])
  clear ek ev ekk er es1 es2 ep1 ep2 ed1
  have hu25 := Try.underlying25
  have H := Sit.start w (fun _ => False)
  go_enter Try.func12, Try.ntmps12
  have st2 := trivial
  have st8 := trivial
  have st10 := trivial
  have st12 := trivial
  go_upto_region 4 with (first
    | (clear st2; go_at_call 22; (with_reducible refine (awake_ok _).mono ?_); rintro e wA ⟨rfl, hb⟩; replace H := H.call hb; clear hb)
    | (clear st8; go_at_call 33; (with_reducible refine (hAB.out _).mono ?_); rintro e w3 ⟨A4, c5, A6, c7, rfl, hr, hr2, hb⟩; replace H := (H.got (fresh_row hr) hb).more ((H.got (fresh_row hr2) hb).row _ m0); clear hr hr2 hb)
    | (clear st10; (with_reducible refine gate_dst (N := 7) rfl ?_); refine box_event ?hg (N := 7) ?hd (cs := #[.bool false, .slice none 0 0]) (t := 25) ?hr ?_; (case hd => rfl); (case hg => rfl); (case hr => first | (go_simp; done) | (go_simp; rfl)); intro gx hg w9 hbox hb; replace H := H.newbox hg hbox hb; clear hg hbox hb; have kgx_0 : w9.cell? ⟨gx, 0, none⟩ = some (.bool false) := H.cell m0 0; have zgx_0 := H.frozen (g := gx) m0 0; have kgx_1 : w9.cell? ⟨gx, 1, none⟩ = some (.slice none 0 0) := H.cell m0 1; have zgx_1 := H.frozen (g := gx) m0 1)
    | (clear st12; (with_reducible refine gate_dst (N := 8) rfl ?_); refine box_event ?hg (N := 8) ?hd (cs := #[.bool false, .slice none 0 0]) (t := 25) ?hr ?_; (case hd => rfl); (case hg => rfl); (case hr => first | (go_simp; done) | (go_simp; rfl)); intro gy hg w11 hbox hb; replace H := H.newbox hg hbox hb; clear hg hbox hb; clear kgx_0 zgx_0 kgx_1 zgx_1; have kgy_0 : w11.cell? ⟨gy, 0, none⟩ = some (.bool false) := H.cell m0 0; have zgy_0 := H.frozen (g := gy) m0 0; have kgy_1 : w11.cell? ⟨gy, 1, none⟩ = some (.slice none 0 0) := H.cell m0 1; have zgy_1 := H.frozen (g := gy) m0 1; have kgx_0 : w11.cell? ⟨gx, 0, none⟩ = some (.bool false) := H.cell m1 0; have zgx_0 := H.frozen (g := gx) m1 0; have kgx_1 : w11.cell? ⟨gx, 1, none⟩ = some (.slice none 0 0) := H.cell m1 1; have zgx_1 := H.frozen (g := gx) m1 1; have ne_gy_gx := H.ne (g := gy) (g' := gx) 0 1 rfl rfl (by decide); have ne_gx_gy := ne_gy_gx.symm))
  (try simp only [Act.put, List.setIfInBounds_toArray, List.set_cons_zero, List.set_cons_succ])
  replace H := ((((H.setn [_] 0 (.bool (ng x)) rfl).setn [_] 1 (.slice A4 (ln x) c5) rfl).setn [] 0 (.bool (ng y)) rfl).setn [] 1 (.slice A6 (ln y) c7) rfl)
  clear kgy_0 zgy_0 kgy_1 zgy_1 kgx_0 zgx_0 kgx_1 zgx_1
  generalize ((((w11.setCell ⟨gx, 0, none⟩ (.bool (ng x))).setCell ⟨gx, 1, none⟩ (.slice A4 (ln x) c5)).setCell ⟨gy, 0, none⟩ (.bool (ng y))).setCell ⟨gy, 1, none⟩ (.slice A6 (ln y) c7)) = w13 at H ⊢
  have kgy_0 : w13.cell? ⟨gy, 0, none⟩ = some (.bool (ng y)) := H.cell m0 0
  have zgy_0 := H.frozen (g := gy) m0 0
  have kgy_1 : w13.cell? ⟨gy, 1, none⟩ = some (.slice A6 (ln y) c7) := H.cell m0 1
  have zgy_1 := H.frozen (g := gy) m0 1
  have kgx_0 : w13.cell? ⟨gx, 0, none⟩ = some (.bool (ng x)) := H.cell m1 0
  have zgx_0 := H.frozen (g := gx) m1 0
  have kgx_1 : w13.cell? ⟨gx, 1, none⟩ = some (.slice A4 (ln x) c5) := H.cell m1 1
  have zgx_1 := H.frozen (g := gx) m1 1
  have st19 := trivial
  have st21 := trivial
  have st23 := trivial
  go_upto_region 5 with (first
    | (clear st19; go_at_call 33; (with_reducible refine (hC.out _).mono ?_); rintro e w14 ⟨A15, c16, A17, c18, rfl, hr, hr2, hb⟩; replace H := (H.got (fresh_row hr) hb).more ((H.got (fresh_row hr2) hb).row _ m0); clear hr hr2 hb; clear kgy_0 zgy_0 kgy_1 zgy_1 kgx_0 zgx_0 kgx_1 zgx_1; have kgy_0 : w14.cell? ⟨gy, 0, none⟩ = some (.bool (ng y)) := H.cell m0 0; have zgy_0 := H.frozen (g := gy) m0 0; have kgy_1 : w14.cell? ⟨gy, 1, none⟩ = some (.slice A6 (ln y) c7) := H.cell m0 1; have zgy_1 := H.frozen (g := gy) m0 1; have kgx_0 : w14.cell? ⟨gx, 0, none⟩ = some (.bool (ng x)) := H.cell m1 0; have zgx_0 := H.frozen (g := gx) m1 0; have kgx_1 : w14.cell? ⟨gx, 1, none⟩ = some (.slice A4 (ln x) c5) := H.cell m1 1; have zgx_1 := H.frozen (g := gx) m1 1)
    | (clear st21; (with_reducible refine gate_dst (N := 10) rfl ?_); refine box_event ?hg (N := 10) ?hd (cs := #[.bool false, .slice none 0 0]) (t := 25) ?hr ?_; (case hd => rfl); (case hg => rfl); (case hr => first | (go_simp; done) | (go_simp; rfl)); intro gz hg w20 hbox hb; replace H := H.newbox hg hbox hb; clear hg hbox hb; clear kgy_0 zgy_0 kgy_1 zgy_1 kgx_0 zgx_0 kgx_1 zgx_1; have kgz_0 : w20.cell? ⟨gz, 0, none⟩ = some (.bool false) := H.cell m0 0; have zgz_0 := H.frozen (g := gz) m0 0; have kgz_1 : w20.cell? ⟨gz, 1, none⟩ = some (.slice none 0 0) := H.cell m0 1; have zgz_1 := H.frozen (g := gz) m0 1; have kgy_0 : w20.cell? ⟨gy, 0, none⟩ = some (.bool (ng y)) := H.cell m1 0; have zgy_0 := H.frozen (g := gy) m1 0; have kgy_1 : w20.cell? ⟨gy, 1, none⟩ = some (.slice A6 (ln y) c7) := H.cell m1 1; have zgy_1 := H.frozen (g := gy) m1 1; have kgx_0 : w20.cell? ⟨gx, 0, none⟩ = some (.bool (ng x)) := H.cell m2 0; have zgx_0 := H.frozen (g := gx) m2 0; have kgx_1 : w20.cell? ⟨gx, 1, none⟩ = some (.slice A4 (ln x) c5) := H.cell m2 1; have zgx_1 := H.frozen (g := gx) m2 1; have ne_gz_gy := H.ne (g := gz) (g' := gy) 0 1 rfl rfl (by decide); have ne_gy_gz := ne_gz_gy.symm; have ne_gz_gx := H.ne (g := gz) (g' := gx) 0 2 rfl rfl (by decide); have ne_gx_gz := ne_gz_gx.symm)
    | (clear st23; (with_reducible refine gate_dst (N := 11) rfl ?_); refine box_event ?hg (N := 11) ?hd (cs := #[.bool false, .slice none 0 0]) (t := 25) ?hr ?_; (case hd => rfl); (case hg => rfl); (case hr => first | (go_simp; done) | (go_simp; rfl)); intro gu hg w22 hbox hb; replace H := H.newbox hg hbox hb; clear hg hbox hb; clear kgz_0 zgz_0 kgz_1 zgz_1 kgy_0 zgy_0 kgy_1 zgy_1 kgx_0 zgx_0 kgx_1 zgx_1; have kgu_0 : w22.cell? ⟨gu, 0, none⟩ = some (.bool false) := H.cell m0 0; have zgu_0 := H.frozen (g := gu) m0 0; have kgu_1 : w22.cell? ⟨gu, 1, none⟩ = some (.slice none 0 0) := H.cell m0 1; have zgu_1 := H.frozen (g := gu) m0 1; have kgz_0 : w22.cell? ⟨gz, 0, none⟩ = some (.bool false) := H.cell m1 0; have zgz_0 := H.frozen (g := gz) m1 0; have kgz_1 : w22.cell? ⟨gz, 1, none⟩ = some (.slice none 0 0) := H.cell m1 1; have zgz_1 := H.frozen (g := gz) m1 1; have kgy_0 : w22.cell? ⟨gy, 0, none⟩ = some (.bool (ng y)) := H.cell m2 0; have zgy_0 := H.frozen (g := gy) m2 0; have kgy_1 : w22.cell? ⟨gy, 1, none⟩ = some (.slice A6 (ln y) c7) := H.cell m2 1; have zgy_1 := H.frozen (g := gy) m2 1; have kgx_0 : w22.cell? ⟨gx, 0, none⟩ = some (.bool (ng x)) := H.cell m3 0; have zgx_0 := H.frozen (g := gx) m3 0; have kgx_1 : w22.cell? ⟨gx, 1, none⟩ = some (.slice A4 (ln x) c5) := H.cell m3 1; have zgx_1 := H.frozen (g := gx) m3 1; have ne_gu_gz := H.ne (g := gu) (g' := gz) 0 1 rfl rfl (by decide); have ne_gz_gu := ne_gu_gz.symm; have ne_gu_gy := H.ne (g := gu) (g' := gy) 0 2 rfl rfl (by decide); have ne_gy_gu := ne_gu_gy.symm; have ne_gu_gx := H.ne (g := gu) (g' := gx) 0 3 rfl rfl (by decide); have ne_gx_gu := ne_gu_gx.symm))
  (try simp only [Act.put, List.setIfInBounds_toArray, List.set_cons_zero, List.set_cons_succ])
  replace H := ((((H.setn [_] 0 (.bool (ng z)) rfl).setn [_] 1 (.slice A15 (ln z) c16) rfl).setn [] 0 (.bool (ng u)) rfl).setn [] 1 (.slice A17 (ln u) c18) rfl)
  clear kgu_0 zgu_0 kgu_1 zgu_1 kgz_0 zgz_0 kgz_1 zgz_1 kgy_0 zgy_0 kgy_1 zgy_1 kgx_0 zgx_0 kgx_1 zgx_1
  generalize ((((w22.setCell ⟨gz, 0, none⟩ (.bool (ng z))).setCell ⟨gz, 1, none⟩ (.slice A15 (ln z) c16)).setCell ⟨gu, 0, none⟩ (.bool (ng u))).setCell ⟨gu, 1, none⟩ (.slice A17 (ln u) c18)) = w24 at H ⊢
  have kgu_0 : w24.cell? ⟨gu, 0, none⟩ = some (.bool (ng u)) := H.cell m0 0
  have zgu_0 := H.frozen (g := gu) m0 0
  have kgu_1 : w24.cell? ⟨gu, 1, none⟩ = some (.slice A17 (ln u) c18) := H.cell m0 1
  have zgu_1 := H.frozen (g := gu) m0 1
  have kgz_0 : w24.cell? ⟨gz, 0, none⟩ = some (.bool (ng z)) := H.cell m1 0
  have zgz_0 := H.frozen (g := gz) m1 0
  have kgz_1 : w24.cell? ⟨gz, 1, none⟩ = some (.slice A15 (ln z) c16) := H.cell m1 1
  have zgz_1 := H.frozen (g := gz) m1 1
  have kgy_0 : w24.cell? ⟨gy, 0, none⟩ = some (.bool (ng y)) := H.cell m2 0
  have zgy_0 := H.frozen (g := gy) m2 0
  have kgy_1 : w24.cell? ⟨gy, 1, none⟩ = some (.slice A6 (ln y) c7) := H.cell m2 1
  have zgy_1 := H.frozen (g := gy) m2 1
  have kgx_0 : w24.cell? ⟨gx, 0, none⟩ = some (.bool (ng x)) := H.cell m3 0
  have zgx_0 := H.frozen (g := gx) m3 0
  have kgx_1 : w24.cell? ⟨gx, 1, none⟩ = some (.slice A4 (ln x) c5) := H.cell m3 1
  have zgx_1 := H.frozen (g := gx) m3 1
  have st26 := trivial
  go_upto_region 8 with (first
    | (clear st26; go_at_call 34; (with_reducible refine (CmpQ (H.row _ m3) (H.row _ m2) (lim bx.out (by decide)) (lim bY.out (by decide)) k hk.out).mono ?_); rintro e w25 ⟨rfl, hb⟩; replace H := H.call hb; clear hb; clear kgu_0 zgu_0 kgu_1 zgu_1 kgz_0 zgz_0 kgz_1 zgz_1 kgy_0 zgy_0 kgy_1 zgy_1 kgx_0 zgx_0 kgx_1 zgx_1; have kgu_0 : w25.cell? ⟨gu, 0, none⟩ = some (.bool (ng u)) := H.cell m0 0; have zgu_0 := H.frozen (g := gu) m0 0; have kgu_1 : w25.cell? ⟨gu, 1, none⟩ = some (.slice A17 (ln u) c18) := H.cell m0 1; have zgu_1 := H.frozen (g := gu) m0 1; have kgz_0 : w25.cell? ⟨gz, 0, none⟩ = some (.bool (ng z)) := H.cell m1 0; have zgz_0 := H.frozen (g := gz) m1 0; have kgz_1 : w25.cell? ⟨gz, 1, none⟩ = some (.slice A15 (ln z) c16) := H.cell m1 1; have zgz_1 := H.frozen (g := gz) m1 1; have kgy_0 : w25.cell? ⟨gy, 0, none⟩ = some (.bool (ng y)) := H.cell m2 0; have zgy_0 := H.frozen (g := gy) m2 0; have kgy_1 : w25.cell? ⟨gy, 1, none⟩ = some (.slice A6 (ln y) c7) := H.cell m2 1; have zgy_1 := H.frozen (g := gy) m2 1; have kgx_0 : w25.cell? ⟨gx, 0, none⟩ = some (.bool (ng x)) := H.cell m3 0; have zgx_0 := H.frozen (g := gx) m3 0; have kgx_1 : w25.cell? ⟨gx, 1, none⟩ = some (.slice A4 (ln x) c5) := H.cell m3 1; have zgx_1 := H.frozen (g := gx) m3 1))
  (try simp only [Act.put, List.setIfInBounds_toArray, List.set_cons_zero, List.set_cons_succ])
  clear kgu_0 zgu_0 kgu_1 zgu_1 kgz_0 zgz_0 kgz_1 zgz_1 kgy_0 zgy_0 kgy_1 zgy_1 kgx_0 zgx_0 kgx_1 zgx_1
  replace H := H.drew
  refine start_ (n := 31) (S := fun w' => w'.cell? ⟨gy, 0, none⟩ = some (.bool (ng y)) ∧ w'.cell? ⟨gy, 1, none⟩ = some (.slice A6 (ln y) c7) ∧ w'.cell? ⟨gx, 0, none⟩ = some (.bool (ng x)) ∧ w'.cell? ⟨gx, 1, none⟩ = some (.slice A4 (ln x) c5) ∧ w'.cell? ⟨gz, 0, none⟩ = some (.bool (ng z)) ∧ w'.cell? ⟨gz, 1, none⟩ = some (.slice A15 (ln z) c16)) (ds := []) #[false, false, false, false, false, false, false, false, false, false, false, false, false, false, false, false, false, false, false, false, false, false, false, false, false, false, false, false, false, false, false] (by kernel_rfl) rfl rfl ⟨H.cell m2 0, H.cell m2 1, H.cell m3 0, H.cell m3 1, H.cell m1 0, H.cell m1 1⟩ (fun hHeld => ?_)
  generalize w25.drew = w27 at H hHeld ⊢
  refine with_tabW tb12.tab8 tb12.bits8 (fun HT_ HW_ => ?_)
  refine pure_ (i := 0) (N := some 38) (v := ?_) (a' := ?_) #[true, false, false, false, false, false, false, false, false, false, false, false, false, false, false, false, false, false, false, false, false, false, false, false, false, false, false, false, false, false, false] rfl rfl (any_of HT_.out (by kernel_rfl)) (fun _ _ _ h => h) (Or.inl ⟨by rfl, ?_⟩) ?_ ?_
  rotate_left
  · intro w'
    go_simp
    with_reducible rfl
  rotate_left
  · simp only [Act.put, List.setIfInBounds_toArray, List.set_cons_zero, List.set_cons_succ, i64_w, i32_w]
    rfl
  refine take_ (i := 1) (N := some 39) (v := ?_) (a' := ?_) #[true, true, false, false, false, false, false, false, false, false, false, false, false, false, false, false, false, false, false, false, false, false, false, false, false, false, false, false, false, false, false] rfl rfl (take_ofW HT_.out HW_.out (by kernel_rfl)) (fun _ _ _ h => h) (Or.inl ⟨by rfl, ?_⟩) hHeld ?_ ?_
  rotate_left
  · rintro w' ⟨s0, s1, s2, s3, s4, s5⟩
    go_simp
    with_reducible rfl
  rotate_left
  · simp only [Act.put, List.setIfInBounds_toArray, List.set_cons_zero, List.set_cons_succ, i64_w, i32_w]
    rfl
  refine take_ (i := 2) (N := some 40) (v := ?_) (a' := ?_) #[true, true, true, false, false, false, false, false, false, false, false, false, false, false, false, false, false, false, false, false, false, false, false, false, false, false, false, false, false, false, false] rfl rfl (take_ofW HT_.out HW_.out (by kernel_rfl)) (fun _ _ _ h => h) (Or.inl ⟨by rfl, ?_⟩) hHeld ?_ ?_
  rotate_left
  · rintro w' ⟨s0, s1, s2, s3, s4, s5⟩
    go_simp
    with_reducible rfl
  rotate_left
  · simp only [Act.put, List.setIfInBounds_toArray, List.set_cons_zero, List.set_cons_succ, i64_w, i32_w]
    rfl
  refine one_ (i := 3) (N := some 41) #[true, true, true, true, false, false, false, false, false, false, false, false, false, false, false, false, false, false, false, false, false, false, false, false, false, false, false, false, false, false, false] rfl rfl (one_of HT_.out (by kernel_rfl)) (by decide) (fun K hK => ?_)
  refine goes_ Try.func34 (by kernel_rfl) rfl #[.agg #[.bool (ng y), .slice A6 (ln y) c7], .agg #[.bool (ng x), .slice A4 (ln x) c5]] (by rfl) rfl rfl (by (try simp only [List.map_toArray, List.map_cons, List.map_nil]); first | done | rfl) ?_
  with_reducible refine (CmpQ (H.row _ m2) (H.row _ m3) (lim bY.out (by decide)) (lim bx.out (by decide)) kk hkk.out).mono ?_
  rintro e w28 ⟨rfl, hb⟩
  replace H := H.call hb
  clear hb
  refine ⟨_, rfl, ?_⟩
  refine hK.out _ _ ⟨H.cell m2 0, H.cell m2 1, H.cell m3 0, H.cell m3 1, H.cell m1 0, H.cell m1 1⟩ (fun hHeld => ?_)
  clear hK K
  refine norm_ (a' := ?_) ?_ ?_
  rotate_left
  · show Act.put _ (some 41) _ = _
    simp only [Act.put, List.setIfInBounds_toArray, List.set_cons_zero, List.set_cons_succ, i64_w, i32_w]
    rfl
  refine pure_ (i := 4) (N := some 42) (v := ?_) (a' := ?_) #[true, true, true, true, true, false, false, false, false, false, false, false, false, false, false, false, false, false, false, false, false, false, false, false, false, false, false, false, false, false, false] rfl rfl (any_of HT_.out (by kernel_rfl)) (fun _ _ _ h => h) (Or.inl ⟨by rfl, ?_⟩) ?_ ?_
  rotate_left
  · intro w'
    go_simp
    with_reducible rfl
  rotate_left
  · simp only [Act.put, List.setIfInBounds_toArray, List.set_cons_zero, List.set_cons_succ, i64_w, i32_w]
    rfl
  refine pure_ (i := 5) (N := some 43) (v := ?_) (a' := ?_) #[true, true, true, true, true, true, false, false, false, false, false, false, false, false, false, false, false, false, false, false, false, false, false, false, false, false, false, false, false, false, false] rfl rfl (any_of HT_.out (by kernel_rfl)) (fun _ _ _ h => h) (Or.inl ⟨by rfl, ?_⟩) ?_ ?_
  rotate_left
  · intro w'
    go_simp
    with_reducible rfl
  rotate_left
  · simp only [Act.put, List.setIfInBounds_toArray, List.set_cons_zero, List.set_cons_succ, i64_w, i32_w]
    rfl
  refine pure_ (i := 6) (N := some 44) (v := ?_) (a' := ?_) #[true, true, true, true, true, true, true, false, false, false, false, false, false, false, false, false, false, false, false, false, false, false, false, false, false, false, false, false, false, false, false] rfl rfl (any_of HT_.out (by kernel_rfl)) (fun _ _ _ h => h) (Or.inl ⟨by rfl, ?_⟩) ?_ ?_
  rotate_left
  · intro w'
    go_simp
    with_reducible rfl
  rotate_left
  · simp only [Act.put, List.setIfInBounds_toArray, List.set_cons_zero, List.set_cons_succ, i64_w, i32_w]
    rfl
  refine pure_ (i := 7) (N := some 45) (v := ?_) (a' := ?_) #[true, true, true, true, true, true, true, true, false, false, false, false, false, false, false, false, false, false, false, false, false, false, false, false, false, false, false, false, false, false, false] rfl rfl (any_of HT_.out (by kernel_rfl)) (fun _ _ _ h => h) (Or.inl ⟨by rfl, ?_⟩) ?_ ?_
  rotate_left
  · intro w'
    go_simp
    with_reducible rfl
  rotate_left
  · simp only [Act.put, List.setIfInBounds_toArray, List.set_cons_zero, List.set_cons_succ, i64_w, i32_w]
    rfl
  refine take_ (i := 8) (N := some 46) (v := ?_) (a' := ?_) #[true, true, true, true, true, true, true, true, true, false, false, false, false, false, false, false, false, false, false, false, false, false, false, false, false, false, false, false, false, false, false] rfl rfl (take_ofW HT_.out HW_.out (by kernel_rfl)) (fun _ _ _ h => h) (Or.inl ⟨by rfl, ?_⟩) hHeld ?_ ?_
  rotate_left
  · rintro w' ⟨s0, s1, s2, s3, s4, s5⟩
    go_simp
    with_reducible rfl
  rotate_left
  · simp only [Act.put, List.setIfInBounds_toArray, List.set_cons_zero, List.set_cons_succ, i64_w, i32_w]
    rfl
  refine take_ (i := 9) (N := some 47) (v := ?_) (a' := ?_) #[true, true, true, true, true, true, true, true, true, true, false, false, false, false, false, false, false, false, false, false, false, false, false, false, false, false, false, false, false, false, false] rfl rfl (take_ofW HT_.out HW_.out (by kernel_rfl)) (fun _ _ _ h => h) (Or.inl ⟨by rfl, ?_⟩) hHeld ?_ ?_
  rotate_left
  · rintro w' ⟨s0, s1, s2, s3, s4, s5⟩
    go_simp
    with_reducible rfl
  rotate_left
  · simp only [Act.put, List.setIfInBounds_toArray, List.set_cons_zero, List.set_cons_succ, i64_w, i32_w]
    rfl
  refine one_ (i := 10) (N := some 48) #[true, true, true, true, true, true, true, true, true, true, true, false, false, false, false, false, false, false, false, false, false, false, false, false, false, false, false, false, false, false, false] rfl rfl (one_of HT_.out (by kernel_rfl)) (by decide) (fun K hK => ?_)
  refine goes_ Try.func30 (by kernel_rfl) rfl #[.agg #[.bool (ng x), .slice A4 (ln x) c5], .agg #[.bool (ng y), .slice A6 (ln y) c7]] (by rfl) rfl rfl (by (try simp only [List.map_toArray, List.map_cons, List.map_nil]); first | done | rfl) ?_
  with_reducible refine (SubQ (H.row _ m3) (H.row _ m2) (lim bx.out (by decide)) (lim bY.out (by decide)) d1 hd1.out).mono ?_
  rintro e w29 ⟨A30, c31, rfl, hr, hb⟩
  replace H := H.got hr hb
  clear hr hb
  refine ⟨_, rfl, ?_⟩
  refine hK.out _ _ ⟨H.cell m2 0, H.cell m2 1, H.cell m3 0, H.cell m3 1, H.cell m1 0, H.cell m1 1⟩ (fun hHeld => ?_)
  clear hK K
  refine norm_ (a' := ?_) ?_ ?_
  rotate_left
  · show Act.put _ (some 48) _ = _
    simp only [Act.put, List.setIfInBounds_toArray, List.set_cons_zero, List.set_cons_succ, i64_w, i32_w]
    rfl
  refine one_ (i := 11) (N := some 49) #[true, true, true, true, true, true, true, true, true, true, true, true, false, false, false, false, false, false, false, false, false, false, false, false, false, false, false, false, false, false, false] rfl rfl (one_of HT_.out (by kernel_rfl)) (by decide) (fun K hK => ?_)
  refine goes_ Try.func25 (by kernel_rfl) rfl #[.agg #[.bool (ng d1), .slice A30 (ln d1) c31]] (by rfl) rfl rfl (by (try simp only [List.map_toArray, List.map_cons, List.map_nil]); first | done | rfl) ?_
  with_reducible refine (SignQ _ _ _ (lim bd1.out (by decide)) k k1.out).mono ?_
  rintro e w32 ⟨rfl, hb⟩
  replace H := H.call hb
  clear hb
  refine ⟨_, rfl, ?_⟩
  refine hK.out _ _ ⟨H.cell m2 0, H.cell m2 1, H.cell m3 0, H.cell m3 1, H.cell m1 0, H.cell m1 1⟩ (fun hHeld => ?_)
  clear hK K
  refine norm_ (a' := ?_) ?_ ?_
  rotate_left
  · show Act.put _ (some 49) _ = _
    simp only [Act.put, List.setIfInBounds_toArray, List.set_cons_zero, List.set_cons_succ, i64_w, i32_w]
    rfl
  refine pure_ (i := 12) (N := some 50) (v := ?_) (a' := ?_) #[true, true, true, true, true, true, true, true, true, true, true, true, true, false, false, false, false, false, false, false, false, false, false, false, false, false, false, false, false, false, false] rfl rfl (any_of HT_.out (by kernel_rfl)) (fun _ _ _ h => h) (Or.inl ⟨by rfl, ?_⟩) ?_ ?_
  rotate_left
  · intro w'
    go_simp
    with_reducible rfl
  rotate_left
  · simp only [Act.put, List.setIfInBounds_toArray, List.set_cons_zero, List.set_cons_succ, i64_w, i32_w]
    rfl
  refine pure_ (i := 13) (N := some 51) (v := ?_) (a' := ?_) #[true, true, true, true, true, true, true, true, true, true, true, true, true, true, false, false, false, false, false, false, false, false, false, false, false, false, false, false, false, false, false] rfl rfl (any_of HT_.out (by kernel_rfl)) (fun _ _ _ h => h) (Or.inl ⟨by rfl, ?_⟩) ?_ ?_
  rotate_left
  · intro w'
    go_simp
    with_reducible rfl
  rotate_left
  · simp only [Act.put, List.setIfInBounds_toArray, List.set_cons_zero, List.set_cons_succ, i64_w, i32_w]
    rfl
  refine pure_ (i := 14) (N := some 52) (v := ?_) (a' := ?_) #[true, true, true, true, true, true, true, true, true, true, true, true, true, true, true, false, false, false, false, false, false, false, false, false, false, false, false, false, false, false, false] rfl rfl (any_of HT_.out (by kernel_rfl)) (fun _ _ _ h => h) (Or.inl ⟨by rfl, ?_⟩) ?_ ?_
  rotate_left
  · intro w'
    go_simp
    with_reducible rfl
  rotate_left
  · simp only [Act.put, List.setIfInBounds_toArray, List.set_cons_zero, List.set_cons_succ, i64_w, i32_w]
    rfl
  refine pure_ (i := 15) (N := some 53) (v := ?_) (a' := ?_) #[true, true, true, true, true, true, true, true, true, true, true, true, true, true, true, true, false, false, false, false, false, false, false, false, false, false, false, false, false, false, false] rfl rfl (any_of HT_.out (by kernel_rfl)) (fun _ _ _ h => h) (Or.inl ⟨by rfl, ?_⟩) ?_ ?_
  rotate_left
  · intro w'
    go_simp
    with_reducible rfl
  rotate_left
  · simp only [Act.put, List.setIfInBounds_toArray, List.set_cons_zero, List.set_cons_succ, i64_w, i32_w]
    rfl
  refine take_ (i := 16) (N := some 54) (v := ?_) (a' := ?_) #[true, true, true, true, true, true, true, true, true, true, true, true, true, true, true, true, true, false, false, false, false, false, false, false, false, false, false, false, false, false, false] rfl rfl (take_ofW HT_.out HW_.out (by kernel_rfl)) (fun _ _ _ h => h) (Or.inl ⟨by rfl, ?_⟩) hHeld ?_ ?_
  rotate_left
  · rintro w' ⟨s0, s1, s2, s3, s4, s5⟩
    go_simp
    with_reducible rfl
  rotate_left
  · simp only [Act.put, List.setIfInBounds_toArray, List.set_cons_zero, List.set_cons_succ, i64_w, i32_w]
    rfl
  refine take_ (i := 17) (N := some 55) (v := ?_) (a' := ?_) #[true, true, true, true, true, true, true, true, true, true, true, true, true, true, true, true, true, true, false, false, false, false, false, false, false, false, false, false, false, false, false] rfl rfl (take_ofW HT_.out HW_.out (by kernel_rfl)) (fun _ _ _ h => h) (Or.inl ⟨by rfl, ?_⟩) hHeld ?_ ?_
  rotate_left
  · rintro w' ⟨s0, s1, s2, s3, s4, s5⟩
    go_simp
    with_reducible rfl
  rotate_left
  · simp only [Act.put, List.setIfInBounds_toArray, List.set_cons_zero, List.set_cons_succ, i64_w, i32_w]
    rfl
  refine take_ (i := 19) (N := some 57) (v := ?_) (a' := ?_) #[true, true, true, true, true, true, true, true, true, true, true, true, true, true, true, true, true, true, false, true, false, false, false, false, false, false, false, false, false, false, false] rfl rfl (take_ofW HT_.out HW_.out (by kernel_rfl)) (fun _ _ _ h => h) (Or.inl ⟨by rfl, ?_⟩) hHeld ?_ ?_
  rotate_left
  · rintro w' ⟨s0, s1, s2, s3, s4, s5⟩
    go_simp
    with_reducible rfl
  rotate_left
  · simp only [Act.put, List.setIfInBounds_toArray, List.set_cons_zero, List.set_cons_succ, i64_w, i32_w]
    rfl
  refine take_ (i := 20) (N := some 58) (v := ?_) (a' := ?_) #[true, true, true, true, true, true, true, true, true, true, true, true, true, true, true, true, true, true, false, true, true, false, false, false, false, false, false, false, false, false, false] rfl rfl (take_ofW HT_.out HW_.out (by kernel_rfl)) (fun _ _ _ h => h) (Or.inl ⟨by rfl, ?_⟩) hHeld ?_ ?_
  rotate_left
  · rintro w' ⟨s0, s1, s2, s3, s4, s5⟩
    go_simp
    with_reducible rfl
  rotate_left
  · simp only [Act.put, List.setIfInBounds_toArray, List.set_cons_zero, List.set_cons_succ, i64_w, i32_w]
    rfl
  refine one_ (i := 18) (N := some 56) #[true, true, true, true, true, true, true, true, true, true, true, true, true, true, true, true, true, true, true, true, true, false, false, false, false, false, false, false, false, false, false] rfl rfl (one_of HT_.out (by kernel_rfl)) (by decide) (fun K hK => ?_)
  refine goes_ Try.func28 (by kernel_rfl) rfl #[.agg #[.bool (ng x), .slice A4 (ln x) c5], .agg #[.bool (ng z), .slice A15 (ln z) c16]] (by rfl) rfl rfl (by (try simp only [List.map_toArray, List.map_cons, List.map_nil]); first | done | rfl) ?_
  with_reducible refine (AddQ (H.row _ m4) (H.row _ m2) (lim bx.out (by decide)) (lim bz.out (by decide)) s1 hs1.out).mono ?_
  rintro e w33 ⟨A34, c35, rfl, hr, hb⟩
  replace H := H.got hr hb
  clear hr hb
  refine ⟨_, rfl, ?_⟩
  refine hK.out _ _ ⟨H.cell m2 0, H.cell m2 1, H.cell m3 0, H.cell m3 1, H.cell m1 0, H.cell m1 1⟩ (fun hHeld => ?_)
  clear hK K
  refine norm_ (a' := ?_) ?_ ?_
  rotate_left
  · show Act.put _ (some 56) _ = _
    simp only [Act.put, List.setIfInBounds_toArray, List.set_cons_zero, List.set_cons_succ, i64_w, i32_w]
    rfl
  refine one_ (i := 21) (N := some 59) #[true, true, true, true, true, true, true, true, true, true, true, true, true, true, true, true, true, true, true, true, true, true, false, false, false, false, false, false, false, false, false] rfl rfl (one_of HT_.out (by kernel_rfl)) (by decide) (fun K hK => ?_)
  refine goes_ Try.func28 (by kernel_rfl) rfl #[.agg #[.bool (ng y), .slice A6 (ln y) c7], .agg #[.bool (ng z), .slice A15 (ln z) c16]] (by rfl) rfl rfl (by (try simp only [List.map_toArray, List.map_cons, List.map_nil]); first | done | rfl) ?_
  with_reducible refine (AddQ (H.row _ m4) (H.row _ m3) (lim bY.out (by decide)) (lim bz.out (by decide)) s2 hs2.out).mono ?_
  rintro e w36 ⟨A37, c38, rfl, hr, hb⟩
  replace H := H.got hr hb
  clear hr hb
  refine ⟨_, rfl, ?_⟩
  refine hK.out _ _ ⟨H.cell m2 0, H.cell m2 1, H.cell m3 0, H.cell m3 1, H.cell m1 0, H.cell m1 1⟩ (fun hHeld => ?_)
  clear hK K
  refine norm_ (a' := ?_) ?_ ?_
  rotate_left
  · show Act.put _ (some 59) _ = _
    simp only [Act.put, List.setIfInBounds_toArray, List.set_cons_zero, List.set_cons_succ, i64_w, i32_w]
    rfl
  refine one_ (i := 22) (N := some 60) #[true, true, true, true, true, true, true, true, true, true, true, true, true, true, true, true, true, true, true, true, true, true, true, false, false, false, false, false, false, false, false] rfl rfl (one_of HT_.out (by kernel_rfl)) (by decide) (fun K hK => ?_)
  refine goes_ Try.func34 (by kernel_rfl) rfl #[.agg #[.bool (ng s1), .slice A34 (ln s1) c35], .agg #[.bool (ng s2), .slice A37 (ln s2) c38]] (by rfl) rfl rfl (by (try simp only [List.map_toArray, List.map_cons, List.map_nil]); first | done | rfl) ?_
  with_reducible refine (CmpQ (H.row _ m1) (H.row _ m0) (lim bs1.out (by decide)) (lim bs2.out (by decide)) k k2.out).mono ?_
  rintro e w39 ⟨rfl, hb⟩
  replace H := H.call hb
  clear hb
  refine ⟨_, rfl, ?_⟩
  refine hK.out _ _ ⟨H.cell m2 0, H.cell m2 1, H.cell m3 0, H.cell m3 1, H.cell m1 0, H.cell m1 1⟩ (fun hHeld => ?_)
  clear hK K
  refine norm_ (a' := ?_) ?_ ?_
  rotate_left
  · show Act.put _ (some 60) _ = _
    simp only [Act.put, List.setIfInBounds_toArray, List.set_cons_zero, List.set_cons_succ, i64_w, i32_w]
    rfl
  refine pure_ (i := 23) (N := some 61) (v := ?_) (a' := ?_) #[true, true, true, true, true, true, true, true, true, true, true, true, true, true, true, true, true, true, true, true, true, true, true, true, false, false, false, false, false, false, false] rfl rfl (any_of HT_.out (by kernel_rfl)) (fun _ _ _ h => h) (Or.inl ⟨by rfl, ?_⟩) ?_ ?_
  rotate_left
  · intro w'
    go_simp
    with_reducible rfl
  rotate_left
  · simp only [Act.put, List.setIfInBounds_toArray, List.set_cons_zero, List.set_cons_succ, i64_w, i32_w]
    rfl
  refine pure_ (i := 24) (N := some 62) (v := ?_) (a' := ?_) #[true, true, true, true, true, true, true, true, true, true, true, true, true, true, true, true, true, true, true, true, true, true, true, true, true, false, false, false, false, false, false] rfl rfl (any_of HT_.out (by kernel_rfl)) (fun _ _ _ h => h) (Or.inl ⟨by rfl, ?_⟩) ?_ ?_
  rotate_left
  · intro w'
    go_simp
    with_reducible rfl
  rotate_left
  · simp only [Act.put, List.setIfInBounds_toArray, List.set_cons_zero, List.set_cons_succ, i64_w, i32_w]
    rfl
  refine pure_ (i := 25) (N := some 63) (v := ?_) (a' := ?_) #[true, true, true, true, true, true, true, true, true, true, true, true, true, true, true, true, true, true, true, true, true, true, true, true, true, true, false, false, false, false, false] rfl rfl (any_of HT_.out (by kernel_rfl)) (fun _ _ _ h => h) (Or.inl ⟨by rfl, ?_⟩) ?_ ?_
  rotate_left
  · intro w'
    go_simp
    with_reducible rfl
  rotate_left
  · simp only [Act.put, List.setIfInBounds_toArray, List.set_cons_zero, List.set_cons_succ, i64_w, i32_w]
    rfl
  refine take_ (i := 26) (N := some 64) (v := ?_) (a' := ?_) #[true, true, true, true, true, true, true, true, true, true, true, true, true, true, true, true, true, true, true, true, true, true, true, true, true, true, true, false, false, false, false] rfl rfl (take_ofW HT_.out HW_.out (by kernel_rfl)) (fun _ _ _ h => h) (Or.inl ⟨by rfl, ?_⟩) hHeld ?_ ?_
  rotate_left
  · rintro w' ⟨s0, s1, s2, s3, s4, s5⟩
    go_simp
    with_reducible rfl
  rotate_left
  · simp only [Act.put, List.setIfInBounds_toArray, List.set_cons_zero, List.set_cons_succ, i64_w, i32_w]
    rfl
  refine take_ (i := 27) (N := some 65) (v := ?_) (a' := ?_) #[true, true, true, true, true, true, true, true, true, true, true, true, true, true, true, true, true, true, true, true, true, true, true, true, true, true, true, true, false, false, false] rfl rfl (take_ofW HT_.out HW_.out (by kernel_rfl)) (fun _ _ _ h => h) (Or.inl ⟨by rfl, ?_⟩) hHeld ?_ ?_
  rotate_left
  · rintro w' ⟨s0, s1, s2, s3, s4, s5⟩
    go_simp
    with_reducible rfl
  rotate_left
  · simp only [Act.put, List.setIfInBounds_toArray, List.set_cons_zero, List.set_cons_succ, i64_w, i32_w]
    rfl
  refine one_ (i := 28) (N := some 66) #[true, true, true, true, true, true, true, true, true, true, true, true, true, true, true, true, true, true, true, true, true, true, true, true, true, true, true, true, true, false, false] rfl rfl (one_of HT_.out (by kernel_rfl)) (by decide) (fun K hK => ?_)
  refine goes_ Try.func34 (by kernel_rfl) rfl #[.agg #[.bool (ng x), .slice A4 (ln x) c5], .agg #[.bool (ng x), .slice A4 (ln x) c5]] (by rfl) rfl rfl (by (try simp only [List.map_toArray, List.map_cons, List.map_nil]); first | done | rfl) ?_
  with_reducible refine (CmpQ (H.row _ m6) (H.row _ m6) (lim bx.out (by decide)) (lim bx.out (by decide)) 0 k3.out).mono ?_
  rintro e w40 ⟨rfl, hb⟩
  replace H := H.call hb
  clear hb
  refine ⟨_, rfl, ?_⟩
  refine hK.out _ _ ⟨H.cell m2 0, H.cell m2 1, H.cell m3 0, H.cell m3 1, H.cell m1 0, H.cell m1 1⟩ (fun hHeld => ?_)
  clear hK K
  refine norm_ (a' := ?_) ?_ ?_
  rotate_left
  · show Act.put _ (some 66) _ = _
    simp only [Act.put, List.setIfInBounds_toArray, List.set_cons_zero, List.set_cons_succ, i64_w, i32_w]
    rfl
  refine pure_ (i := 29) (N := some 67) (v := ?_) (a' := ?_) #[true, true, true, true, true, true, true, true, true, true, true, true, true, true, true, true, true, true, true, true, true, true, true, true, true, true, true, true, true, true, false] rfl rfl (any_of HT_.out (by kernel_rfl)) (fun _ _ _ h => h) (Or.inl ⟨by rfl, ?_⟩) ?_ ?_
  rotate_left
  · intro w'
    go_simp
    with_reducible rfl
  rotate_left
  · simp only [Act.put, List.setIfInBounds_toArray, List.set_cons_zero, List.set_cons_succ, i64_w, i32_w]
    rfl
  refine pure_ (i := 30) (N := some 68) (v := ?_) (a' := ?_) #[true, true, true, true, true, true, true, true, true, true, true, true, true, true, true, true, true, true, true, true, true, true, true, true, true, true, true, true, true, true, true] rfl rfl (any_of HT_.out (by kernel_rfl)) (fun _ _ _ h => h) (Or.inl ⟨by rfl, ?_⟩) ?_ ?_
  rotate_left
  · intro w'
    go_simp
    with_reducible rfl
  rotate_left
  · simp only [Act.put, List.setIfInBounds_toArray, List.set_cons_zero, List.set_cons_succ, i64_w, i32_w]
    rfl
  refine done_ (done_of HT_.out (by kernel_rfl)) ?_
  try clear hHeld
  go_upto_region 10 with fail
  (try simp only [Act.put, List.setIfInBounds_toArray, List.set_cons_zero, List.set_cons_succ])
  replace H := H.drew
  refine start_ (n := 13) (S := fun w' => w'.cell? ⟨gx, 0, none⟩ = some (.bool (ng x)) ∧ w'.cell? ⟨gx, 1, none⟩ = some (.slice A4 (ln x) c5) ∧ w'.cell? ⟨gz, 0, none⟩ = some (.bool (ng z)) ∧ w'.cell? ⟨gz, 1, none⟩ = some (.slice A15 (ln z) c16) ∧ w'.cell? ⟨gy, 0, none⟩ = some (.bool (ng y)) ∧ w'.cell? ⟨gy, 1, none⟩ = some (.slice A6 (ln y) c7)) (ds := []) #[false, false, false, false, false, false, false, false, false, false, false, false, false] (by kernel_rfl) rfl rfl ⟨H.cell m3 0, H.cell m3 1, H.cell m1 0, H.cell m1 1, H.cell m2 0, H.cell m2 1⟩ (fun hHeld => ?_)
  generalize w40.drew = w41 at H hHeld ⊢
  refine with_tabW tb12.tab10 tb12.bits10 (fun HT_ HW_ => ?_)
  refine pure_ (i := 7) (N := some 76) (v := ?_) (a' := ?_) #[false, false, false, false, false, false, false, true, false, false, false, false, false] rfl rfl (any_of HT_.out (by kernel_rfl)) (fun _ _ _ h => h) (Or.inl ⟨by rfl, ?_⟩) ?_ ?_
  rotate_left
  · intro w'
    go_simp
    with_reducible rfl
  rotate_left
  · simp only [Act.put, List.setIfInBounds_toArray, List.set_cons_zero, List.set_cons_succ, i64_w, i32_w]
    rfl
  refine take_ (i := 0) (N := some 69) (v := ?_) (a' := ?_) #[true, false, false, false, false, false, false, true, false, false, false, false, false] rfl rfl (take_ofW HT_.out HW_.out (by kernel_rfl)) (fun _ _ _ h => h) (Or.inl ⟨by rfl, ?_⟩) hHeld ?_ ?_
  rotate_left
  · rintro w' ⟨s0, s1, s2, s3, s4, s5⟩
    go_simp
    with_reducible rfl
  rotate_left
  · simp only [Act.put, List.setIfInBounds_toArray, List.set_cons_zero, List.set_cons_succ, i64_w, i32_w]
    rfl
  refine take_ (i := 1) (N := some 70) (v := ?_) (a' := ?_) #[true, true, false, false, false, false, false, true, false, false, false, false, false] rfl rfl (take_ofW HT_.out HW_.out (by kernel_rfl)) (fun _ _ _ h => h) (Or.inl ⟨by rfl, ?_⟩) hHeld ?_ ?_
  rotate_left
  · rintro w' ⟨s0, s1, s2, s3, s4, s5⟩
    go_simp
    with_reducible rfl
  rotate_left
  · simp only [Act.put, List.setIfInBounds_toArray, List.set_cons_zero, List.set_cons_succ, i64_w, i32_w]
    rfl
  refine take_ (i := 3) (N := some 72) (v := ?_) (a' := ?_) #[true, true, false, true, false, false, false, true, false, false, false, false, false] rfl rfl (take_ofW HT_.out HW_.out (by kernel_rfl)) (fun _ _ _ h => h) (Or.inl ⟨by rfl, ?_⟩) hHeld ?_ ?_
  rotate_left
  · rintro w' ⟨s0, s1, s2, s3, s4, s5⟩
    go_simp
    with_reducible rfl
  rotate_left
  · simp only [Act.put, List.setIfInBounds_toArray, List.set_cons_zero, List.set_cons_succ, i64_w, i32_w]
    rfl
  refine take_ (i := 4) (N := some 73) (v := ?_) (a' := ?_) #[true, true, false, true, true, false, false, true, false, false, false, false, false] rfl rfl (take_ofW HT_.out HW_.out (by kernel_rfl)) (fun _ _ _ h => h) (Or.inl ⟨by rfl, ?_⟩) hHeld ?_ ?_
  rotate_left
  · rintro w' ⟨s0, s1, s2, s3, s4, s5⟩
    go_simp
    with_reducible rfl
  rotate_left
  · simp only [Act.put, List.setIfInBounds_toArray, List.set_cons_zero, List.set_cons_succ, i64_w, i32_w]
    rfl
  refine take_ (i := 8) (N := some 77) (v := ?_) (a' := ?_) #[true, true, false, true, true, false, false, true, true, false, false, false, false] rfl rfl (take_ofW HT_.out HW_.out (by kernel_rfl)) (fun _ _ _ h => h) (Or.inl ⟨by rfl, ?_⟩) hHeld ?_ ?_
  rotate_left
  · rintro w' ⟨s0, s1, s2, s3, s4, s5⟩
    go_simp
    with_reducible rfl
  rotate_left
  · simp only [Act.put, List.setIfInBounds_toArray, List.set_cons_zero, List.set_cons_succ, i64_w, i32_w]
    rfl
  refine one_ (i := 2) (N := some 71) #[true, true, true, true, true, false, false, true, true, false, false, false, false] rfl rfl (one_of HT_.out (by kernel_rfl)) (by decide) (fun K hK => ?_)
  refine goes_ Try.func31 (by kernel_rfl) rfl #[.agg #[.bool (ng x), .slice A4 (ln x) c5], .agg #[.bool (ng z), .slice A15 (ln z) c16]] (by rfl) rfl rfl (by (try simp only [List.map_toArray, List.map_cons, List.map_nil]); first | done | rfl) ?_
  with_reducible refine (MulQ (H.row _ m6) (H.row _ m4) (lim bx.out (by decide)) (lim bz.out (by decide)) p1 hp1.out).mono ?_
  rintro e w42 ⟨A43, c44, rfl, hr, hb⟩
  replace H := H.got hr hb
  clear hr hb
  refine ⟨_, rfl, ?_⟩
  refine hK.out _ _ ⟨H.cell m3 0, H.cell m3 1, H.cell m1 0, H.cell m1 1, H.cell m2 0, H.cell m2 1⟩ (fun hHeld => ?_)
  clear hK K
  refine norm_ (a' := ?_) ?_ ?_
  rotate_left
  · show Act.put _ (some 71) _ = _
    simp only [Act.put, List.setIfInBounds_toArray, List.set_cons_zero, List.set_cons_succ, i64_w, i32_w]
    rfl
  refine one_ (i := 5) (N := some 74) #[true, true, true, true, true, true, false, true, true, false, false, false, false] rfl rfl (one_of HT_.out (by kernel_rfl)) (by decide) (fun K hK => ?_)
  refine goes_ Try.func31 (by kernel_rfl) rfl #[.agg #[.bool (ng y), .slice A6 (ln y) c7], .agg #[.bool (ng z), .slice A15 (ln z) c16]] (by rfl) rfl rfl (by (try simp only [List.map_toArray, List.map_cons, List.map_nil]); first | done | rfl) ?_
  with_reducible refine (MulQ (H.row _ m6) (H.row _ m5) (lim bY.out (by decide)) (lim bz.out (by decide)) p2 hp2.out).mono ?_
  rintro e w45 ⟨A46, c47, rfl, hr, hb⟩
  replace H := H.got hr hb
  clear hr hb
  refine ⟨_, rfl, ?_⟩
  refine hK.out _ _ ⟨H.cell m3 0, H.cell m3 1, H.cell m1 0, H.cell m1 1, H.cell m2 0, H.cell m2 1⟩ (fun hHeld => ?_)
  clear hK K
  refine norm_ (a' := ?_) ?_ ?_
  rotate_left
  · show Act.put _ (some 74) _ = _
    simp only [Act.put, List.setIfInBounds_toArray, List.set_cons_zero, List.set_cons_succ, i64_w, i32_w]
    rfl
  refine one_ (i := 6) (N := some 75) #[true, true, true, true, true, true, true, true, true, false, false, false, false] rfl rfl (one_of HT_.out (by kernel_rfl)) (by decide) (fun K hK => ?_)
  refine goes_ Try.func34 (by kernel_rfl) rfl #[.agg #[.bool (ng p1), .slice A43 (ln p1) c44], .agg #[.bool (ng p2), .slice A46 (ln p2) c47]] (by rfl) rfl rfl (by (try simp only [List.map_toArray, List.map_cons, List.map_nil]); first | done | rfl) ?_
  with_reducible refine (CmpQ (H.row _ m1) (H.row _ m0) (lim bp1.out (by decide)) (lim bp2.out (by decide)) r k4.out).mono ?_
  rintro e w48 ⟨rfl, hb⟩
  replace H := H.call hb
  clear hb
  refine ⟨_, rfl, ?_⟩
  refine hK.out _ _ ⟨H.cell m3 0, H.cell m3 1, H.cell m1 0, H.cell m1 1, H.cell m2 0, H.cell m2 1⟩ (fun hHeld => ?_)
  clear hK K
  refine norm_ (a' := ?_) ?_ ?_
  rotate_left
  · show Act.put _ (some 75) _ = _
    simp only [Act.put, List.setIfInBounds_toArray, List.set_cons_zero, List.set_cons_succ, i64_w, i32_w]
    rfl
  refine one_ (i := 9) (N := some 78) #[true, true, true, true, true, true, true, true, true, true, false, false, false] rfl rfl (one_of HT_.out (by kernel_rfl)) (by decide) (fun K hK => ?_)
  refine goes_ Try.func25 (by kernel_rfl) rfl #[.agg #[.bool (ng z), .slice A15 (ln z) c16]] (by rfl) rfl rfl (by (try simp only [List.map_toArray, List.map_cons, List.map_nil]); first | done | rfl) ?_
  with_reducible refine (SignQ _ _ _ (lim bz.out (by decide)) v hv.out).mono ?_
  rintro e w49 ⟨rfl, hb⟩
  replace H := H.call hb
  clear hb
  refine ⟨_, rfl, ?_⟩
  refine hK.out _ _ ⟨H.cell m3 0, H.cell m3 1, H.cell m1 0, H.cell m1 1, H.cell m2 0, H.cell m2 1⟩ (fun hHeld => ?_)
  clear hK K
  refine norm_ (a' := ?_) ?_ ?_
  rotate_left
  · show Act.put _ (some 78) _ = _
    simp only [Act.put, List.setIfInBounds_toArray, List.set_cons_zero, List.set_cons_succ, i64_w, i32_w]
    rfl
  refine pure_ (i := 10) (N := some 79) (v := ?_) (a' := ?_) #[true, true, true, true, true, true, true, true, true, true, true, false, false] rfl rfl (any_of HT_.out (by kernel_rfl)) (fun _ _ _ h => h) (Or.inl ⟨by rfl, ?_⟩) ?_ ?_
  rotate_left
  · intro w'
    go_simp
    with_reducible rfl
  rotate_left
  · simp only [Act.put, List.setIfInBounds_toArray, List.set_cons_zero, List.set_cons_succ, i64_w, i32_w]
    rfl
  refine pure_ (i := 11) (N := some 80) (v := ?_) (a' := ?_) #[true, true, true, true, true, true, true, true, true, true, true, true, false] rfl rfl (any_of HT_.out (by kernel_rfl)) (fun _ _ _ h => h) (Or.inl ⟨by rfl, ?_⟩) ?_ ?_
  rotate_left
  · intro w'
    go_simp
    with_reducible rfl
  rotate_left
  · simp only [Act.put, List.setIfInBounds_toArray, List.set_cons_zero, List.set_cons_succ, i64_w, i32_w]
    rfl
  refine pure_ (i := 12) (N := some 6) (v := ?_) (a' := ?_) #[true, true, true, true, true, true, true, true, true, true, true, true, true] rfl rfl (any_of HT_.out (by kernel_rfl)) (fun _ _ _ h => h) (Or.inl ⟨by rfl, ?_⟩) ?_ ?_
  rotate_left
  · intro w'
    go_simp
    with_reducible rfl
  rotate_left
  · simp only [Act.put, List.setIfInBounds_toArray, List.set_cons_zero, List.set_cons_succ, i64_w, i32_w]
    rfl
  refine done_ (done_of HT_.out (by kernel_rfl)) ?_
  try clear hHeld
  go_wp2
  go_ret
  exact ⟨rfl, H.below⟩

theorem ord_walk (a b c : ByteArray) (w : World) : Calls Try.prog 12 #[.string a, .string b, .string c] w (fun e W' => e = .returned (.bool true) ∧ Below w.heap.size w W') := by
  by_cases h : ∃ x y, Both a b x y
  · obtain ⟨x, y, h⟩ := h
    by_cases h' : ∃ z u, Both c ⟨#[48]⟩ z u
    · obtain ⟨z, u, h'⟩ := h'
      exact ord_t a b c w x y z u ⟨(both_small h).1⟩ ⟨(both_small h).2⟩ ⟨(both_small h').1⟩ ⟨two_ok h⟩ ⟨two_ok h'⟩
    · obtain ⟨z, u, h'⟩ := two_not c ⟨#[48]⟩ h'
      exact ord_tf a b c w x y z u ⟨two_ok h⟩ ⟨h'⟩
  · obtain ⟨x, y, h⟩ := two_not a b h
    obtain ⟨z, u, q, h'⟩ := two_any c ⟨#[48]⟩
    exact ord_f a b c w x y z u q ⟨h⟩ ⟨h'⟩

end Go.Proofs.Ytdkapdgbfejgdaa
