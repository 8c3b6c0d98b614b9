/- The walk of the law BigintGcd. -/
import Derived.Test.YtdkapdgbfejgdaaGc
import Derived.Test.YtdkapdgbfejgdaaTw
namespace Go.Proofs.Ytdkapdgbfejgdaa
open Go.RowKit Go.Proofs.YtdkapdgbfejgdaaW.PrintWords Go.Proofs.YtdkapdgbfejgdaaW.PrintLast Go.Proofs.YtdkapdgbfejgdaaW.PrintMore
set_option linter.unusedSimpArgs false
set_option linter.unusedVariables false
set_option maxHeartbeats 8000000
set_option maxRecDepth 100000
def bm (n k : Nat) : Array Bool := ((List.range n).map (fun i => k.testBit i)).toArray

theorem gcd_f (a b : ByteArray) (w : World) (x y : Int) (hAB : Aside0 (∀ w, Calls Try.prog 33 #[.string a, .string b] w (RetTwo w x y false))) : Calls Try.prog 13 #[.string a, .string b] w (fun e W' => e = .returned (.bool true) ∧ Below w.heap.size w W') := by
  have hu25 := Try.underlying25
  have H := Sit.start w (fun _ => False)
  go_enter Try.func13, Try.ntmps13
  have st2 := trivial
  have st8 := trivial
  have st10 := trivial
  have st12 := trivial
  go_upto_region 4 with (first
    | (clear st2; go_at_call 22; (with_reducible refine (awake_ok _).mono ?_); rintro e wA ⟨rfl, hb⟩; replace H := H.call hb; clear hb)
    | (clear st8; go_at_call 33; (with_reducible refine (hAB.out _).mono ?_); rintro e w3 ⟨A4, c5, A6, c7, rfl, hr, hr2, hb⟩; replace H := (H.got (fresh_row hr) hb).more ((H.got (fresh_row hr2) hb).row _ m0); clear hr hr2 hb)
    | (clear st10; (with_reducible refine gate_dst (N := 5) rfl ?_); refine box_event ?hg (N := 5) ?hd (cs := #[.bool false, .slice none 0 0]) (t := 25) ?hr ?_; (case hd => rfl); (case hg => rfl); (case hr => go_simp; try rfl); intro gx hg w9 hbox hb; replace H := H.newbox hg hbox hb; clear hg hbox hb; have kgx_0 : w9.cell? ⟨gx, 0, none⟩ = some (.bool false) := H.cell m0 0; have zgx_0 := H.frozen (g := gx) m0 0; have kgx_1 : w9.cell? ⟨gx, 1, none⟩ = some (.slice none 0 0) := H.cell m0 1; have zgx_1 := H.frozen (g := gx) m0 1)
    | (clear st12; (with_reducible refine gate_dst (N := 6) rfl ?_); refine box_event ?hg (N := 6) ?hd (cs := #[.bool false, .slice none 0 0]) (t := 25) ?hr ?_; (case hd => rfl); (case hg => rfl); (case hr => go_simp; try rfl); intro gy hg w11 hbox hb; replace H := H.newbox hg hbox hb; clear hg hbox hb; clear kgx_0 zgx_0 kgx_1 zgx_1; have kgy_0 : w11.cell? ⟨gy, 0, none⟩ = some (.bool false) := H.cell m0 0; have zgy_0 := H.frozen (g := gy) m0 0; have kgy_1 : w11.cell? ⟨gy, 1, none⟩ = some (.slice none 0 0) := H.cell m0 1; have zgy_1 := H.frozen (g := gy) m0 1; have kgx_0 : w11.cell? ⟨gx, 0, none⟩ = some (.bool false) := H.cell m1 0; have zgx_0 := H.frozen (g := gx) m1 0; have kgx_1 : w11.cell? ⟨gx, 1, none⟩ = some (.slice none 0 0) := H.cell m1 1; have zgx_1 := H.frozen (g := gx) m1 1; have ne_gy_gx := H.ne (g := gy) (g' := gx) 0 1 rfl rfl (by decide); have ne_gx_gy := ne_gy_gx.symm))
  (try simp only [Act.put, List.setIfInBounds_toArray, List.set_cons_zero, List.set_cons_succ])
  replace H := ((((H.setn [_] 0 (.bool (ng x)) rfl).setn [_] 1 (.slice A4 (ln x) c5) rfl).setn [] 0 (.bool (ng y)) rfl).setn [] 1 (.slice A6 (ln y) c7) rfl)
  clear kgy_0 zgy_0 kgy_1 zgy_1 kgx_0 zgx_0 kgx_1 zgx_1
  generalize ((((w11.setCell ⟨gx, 0, none⟩ (.bool (ng x))).setCell ⟨gx, 1, none⟩ (.slice A4 (ln x) c5)).setCell ⟨gy, 0, none⟩ (.bool (ng y))).setCell ⟨gy, 1, none⟩ (.slice A6 (ln y) c7)) = w13 at H ⊢
  have kgy_0 : w13.cell? ⟨gy, 0, none⟩ = some (.bool (ng y)) := H.cell m0 0
  have zgy_0 := H.frozen (g := gy) m0 0
  have kgy_1 : w13.cell? ⟨gy, 1, none⟩ = some (.slice A6 (ln y) c7) := H.cell m0 1
  have zgy_1 := H.frozen (g := gy) m0 1
  have kgx_0 : w13.cell? ⟨gx, 0, none⟩ = some (.bool (ng x)) := H.cell m1 0
  have zgx_0 := H.frozen (g := gx) m1 0
  have kgx_1 : w13.cell? ⟨gx, 1, none⟩ = some (.slice A4 (ln x) c5) := H.cell m1 1
  have zgx_1 := H.frozen (g := gx) m1 1
  go_wp2
  go_ret
  exact ⟨rfl, H.below⟩

def tb13.T8 : Bool × List (List Nat × List Nat) := (true, [([], []), ([], []), ([1], [1]), ([], []), ([3, 2], [3]), ([2, 4, 4], [2, 4]), ([0, 5, 5], [0, 5]), ([6], [6]), ([7, 6, 0, 1, 2, 3, 4, 5, 6, 7], [7])])
def tb13.B8 : List Nat := [0, 0, 2, 0, 14, 30, 63, 127, 255]
theorem tb13.tab8 : rtab .any (opsOf Try.f13 8) = tb13.T8 := by kernel_rfl
theorem tb13.bits8 : waitsOk tb13.T8.2 tb13.B8 = true := by kernel_rfl

theorem gcd_x (a b : ByteArray) (w : World) (x y : Int) (bx : Aside0 (ln x ≤ 10)) (bY : Aside0 (ln y ≤ 10)) (gv : Int) (hgv : Aside0 (((Int.gcd x y : Nat) : Int) = gv)) (bgv : Aside0 (ln gv ≤ 10)) (hz : Aside0 (x = 0)) (hsz : Aside0 (sg x = 0)) (hAB : Aside0 (∀ w, Calls Try.prog 33 #[.string a, .string b] w (RetTwo w x y true))) : Calls Try.prog 13 #[.string a, .string b] w (fun e W' => e = .returned (.bool true) ∧ Below w.heap.size w W') := by
  obtain ⟨ax, eax⟩ : ∃ v : Int, ((x.natAbs : Nat) : Int) = v := ⟨_, rfl⟩
  obtain ⟨ay, eay⟩ : ∃ v : Int, ((y.natAbs : Nat) : Int) = v := ⟨_, rfl⟩
  obtain ⟨s, es⟩ : ∃ v : Int, ax + ay = v := ⟨_, rfl⟩
  have bax := Aside0.mk (bAbs bx.out (show ax.natAbs ≤ x.natAbs by omega))
  have bay := Aside0.mk (bAbs bY.out (show ay.natAbs ≤ y.natAbs by omega))
  have bs := Aside0.mk (bAdd bax.out bay.out es)
  have hk := Aside0.mk (show cmp3 gv s = 0 from cmp3_eq (by rw [← hgv.out, ← es, ← eax, ← eay, hz.out]; simp))
  have hax := Aside0.mk eax
  have hay := Aside0.mk eay
  have hs := Aside0.mk es
  clear eax eay es
  have hu25 := Try.underlying25
  have H := Sit.start w (fun _ => False)
  go_enter Try.func13, Try.ntmps13
  have st2 := trivial
  have st8 := trivial
  have st10 := trivial
  have st12 := trivial
  go_upto_region 4 with (first
    | (clear st2; go_at_call 22; (with_reducible refine (awake_ok _).mono ?_); rintro e wA ⟨rfl, hb⟩; replace H := H.call hb; clear hb)
    | (clear st8; go_at_call 33; (with_reducible refine (hAB.out _).mono ?_); rintro e w3 ⟨A4, c5, A6, c7, rfl, hr, hr2, hb⟩; replace H := (H.got (fresh_row hr) hb).more ((H.got (fresh_row hr2) hb).row _ m0); clear hr hr2 hb)
    | (clear st10; (with_reducible refine gate_dst (N := 5) rfl ?_); refine box_event ?hg (N := 5) ?hd (cs := #[.bool false, .slice none 0 0]) (t := 25) ?hr ?_; (case hd => rfl); (case hg => rfl); (case hr => go_simp; try rfl); intro gx hg w9 hbox hb; replace H := H.newbox hg hbox hb; clear hg hbox hb; have kgx_0 : w9.cell? ⟨gx, 0, none⟩ = some (.bool false) := H.cell m0 0; have zgx_0 := H.frozen (g := gx) m0 0; have kgx_1 : w9.cell? ⟨gx, 1, none⟩ = some (.slice none 0 0) := H.cell m0 1; have zgx_1 := H.frozen (g := gx) m0 1)
    | (clear st12; (with_reducible refine gate_dst (N := 6) rfl ?_); refine box_event ?hg (N := 6) ?hd (cs := #[.bool false, .slice none 0 0]) (t := 25) ?hr ?_; (case hd => rfl); (case hg => rfl); (case hr => go_simp; try rfl); intro gy hg w11 hbox hb; replace H := H.newbox hg hbox hb; clear hg hbox hb; clear kgx_0 zgx_0 kgx_1 zgx_1; have kgy_0 : w11.cell? ⟨gy, 0, none⟩ = some (.bool false) := H.cell m0 0; have zgy_0 := H.frozen (g := gy) m0 0; have kgy_1 : w11.cell? ⟨gy, 1, none⟩ = some (.slice none 0 0) := H.cell m0 1; have zgy_1 := H.frozen (g := gy) m0 1; have kgx_0 : w11.cell? ⟨gx, 0, none⟩ = some (.bool false) := H.cell m1 0; have zgx_0 := H.frozen (g := gx) m1 0; have kgx_1 : w11.cell? ⟨gx, 1, none⟩ = some (.slice none 0 0) := H.cell m1 1; have zgx_1 := H.frozen (g := gx) m1 1; have ne_gy_gx := H.ne (g := gy) (g' := gx) 0 1 rfl rfl (by decide); have ne_gx_gy := ne_gy_gx.symm))
  (try simp only [Act.put, List.setIfInBounds_toArray, List.set_cons_zero, List.set_cons_succ])
  replace H := ((((H.setn [_] 0 (.bool (ng x)) rfl).setn [_] 1 (.slice A4 (ln x) c5) rfl).setn [] 0 (.bool (ng y)) rfl).setn [] 1 (.slice A6 (ln y) c7) rfl)
  clear kgy_0 zgy_0 kgy_1 zgy_1 kgx_0 zgx_0 kgx_1 zgx_1
  generalize ((((w11.setCell ⟨gx, 0, none⟩ (.bool (ng x))).setCell ⟨gx, 1, none⟩ (.slice A4 (ln x) c5)).setCell ⟨gy, 0, none⟩ (.bool (ng y))).setCell ⟨gy, 1, none⟩ (.slice A6 (ln y) c7)) = w13 at H ⊢
  have kgy_0 : w13.cell? ⟨gy, 0, none⟩ = some (.bool (ng y)) := H.cell m0 0
  have zgy_0 := H.frozen (g := gy) m0 0
  have kgy_1 : w13.cell? ⟨gy, 1, none⟩ = some (.slice A6 (ln y) c7) := H.cell m0 1
  have zgy_1 := H.frozen (g := gy) m0 1
  have kgx_0 : w13.cell? ⟨gx, 0, none⟩ = some (.bool (ng x)) := H.cell m1 0
  have zgx_0 := H.frozen (g := gx) m1 0
  have kgx_1 : w13.cell? ⟨gx, 1, none⟩ = some (.slice A4 (ln x) c5) := H.cell m1 1
  have zgx_1 := H.frozen (g := gx) m1 1
  have st17 := trivial
  have st19 := trivial
  go_upto_region 7 with (first
    | (clear st17; go_at_call 61; (with_reducible refine (GcdQ (H.row _ m1) (H.row _ m0) (lim bx.out (by decide)) (lim bY.out (by decide)) gv hgv.out).mono ?_); rintro e w14 ⟨A15, c16, rfl, hr, hb⟩; replace H := H.got hr hb; clear hr hb; clear kgy_0 zgy_0 kgy_1 zgy_1 kgx_0 zgx_0 kgx_1 zgx_1; have kgy_0 : w14.cell? ⟨gy, 0, none⟩ = some (.bool (ng y)) := H.cell m0 0; have zgy_0 := H.frozen (g := gy) m0 0; have kgy_1 : w14.cell? ⟨gy, 1, none⟩ = some (.slice A6 (ln y) c7) := H.cell m0 1; have zgy_1 := H.frozen (g := gy) m0 1; have kgx_0 : w14.cell? ⟨gx, 0, none⟩ = some (.bool (ng x)) := H.cell m1 0; have zgx_0 := H.frozen (g := gx) m1 0; have kgx_1 : w14.cell? ⟨gx, 1, none⟩ = some (.slice A4 (ln x) c5) := H.cell m1 1; have zgx_1 := H.frozen (g := gx) m1 1)
    | (clear st19; (with_reducible refine gate_dst (N := 8) rfl ?_); refine box_event ?hg (N := 8) ?hd (cs := #[.bool false, .slice none 0 0]) (t := 25) ?hr ?_; (case hd => rfl); (case hg => rfl); (case hr => go_simp; try rfl); intro gg hg w18 hbox hb; replace H := H.newbox hg hbox hb; clear hg hbox hb; clear kgy_0 zgy_0 kgy_1 zgy_1 kgx_0 zgx_0 kgx_1 zgx_1; have kgg_0 : w18.cell? ⟨gg, 0, none⟩ = some (.bool false) := H.cell m0 0; have zgg_0 := H.frozen (g := gg) m0 0; have kgg_1 : w18.cell? ⟨gg, 1, none⟩ = some (.slice none 0 0) := H.cell m0 1; have zgg_1 := H.frozen (g := gg) m0 1; have kgy_0 : w18.cell? ⟨gy, 0, none⟩ = some (.bool (ng y)) := H.cell m1 0; have zgy_0 := H.frozen (g := gy) m1 0; have kgy_1 : w18.cell? ⟨gy, 1, none⟩ = some (.slice A6 (ln y) c7) := H.cell m1 1; have zgy_1 := H.frozen (g := gy) m1 1; have kgx_0 : w18.cell? ⟨gx, 0, none⟩ = some (.bool (ng x)) := H.cell m2 0; have zgx_0 := H.frozen (g := gx) m2 0; have kgx_1 : w18.cell? ⟨gx, 1, none⟩ = some (.slice A4 (ln x) c5) := H.cell m2 1; have zgx_1 := H.frozen (g := gx) m2 1; have ne_gg_gy := H.ne (g := gg) (g' := gy) 0 1 rfl rfl (by decide); have ne_gy_gg := ne_gg_gy.symm; have ne_gg_gx := H.ne (g := gg) (g' := gx) 0 2 rfl rfl (by decide); have ne_gx_gg := ne_gg_gx.symm))
  (try simp only [Act.put, List.setIfInBounds_toArray, List.set_cons_zero, List.set_cons_succ])
  replace H := ((H.setn [] 0 (.bool (ng gv)) rfl).setn [] 1 (.slice A15 (ln gv) c16) rfl)
  clear kgg_0 zgg_0 kgg_1 zgg_1 kgy_0 zgy_0 kgy_1 zgy_1 kgx_0 zgx_0 kgx_1 zgx_1
  generalize ((w18.setCell ⟨gg, 0, none⟩ (.bool (ng gv))).setCell ⟨gg, 1, none⟩ (.slice A15 (ln gv) c16)) = w20 at H ⊢
  have kgg_0 : w20.cell? ⟨gg, 0, none⟩ = some (.bool (ng gv)) := H.cell m0 0
  have zgg_0 := H.frozen (g := gg) m0 0
  have kgg_1 : w20.cell? ⟨gg, 1, none⟩ = some (.slice A15 (ln gv) c16) := H.cell m0 1
  have zgg_1 := H.frozen (g := gg) m0 1
  have kgy_0 : w20.cell? ⟨gy, 0, none⟩ = some (.bool (ng y)) := H.cell m1 0
  have zgy_0 := H.frozen (g := gy) m1 0
  have kgy_1 : w20.cell? ⟨gy, 1, none⟩ = some (.slice A6 (ln y) c7) := H.cell m1 1
  have zgy_1 := H.frozen (g := gy) m1 1
  have kgx_0 : w20.cell? ⟨gx, 0, none⟩ = some (.bool (ng x)) := H.cell m2 0
  have zgx_0 := H.frozen (g := gx) m2 0
  have kgx_1 : w20.cell? ⟨gx, 1, none⟩ = some (.slice A4 (ln x) c5) := H.cell m2 1
  have zgx_1 := H.frozen (g := gx) m2 1
  have st22 := trivial
  go_upto_region 8 with (first
    | (clear st22; go_at_call 25; (with_reducible refine (SignQ _ _ _ (lim bx.out (by decide)) 0 hsz.out).mono ?_); rintro e w21 ⟨rfl, hb⟩; replace H := H.call hb; clear hb; clear kgg_0 zgg_0 kgg_1 zgg_1 kgy_0 zgy_0 kgy_1 zgy_1 kgx_0 zgx_0 kgx_1 zgx_1; have kgg_0 : w21.cell? ⟨gg, 0, none⟩ = some (.bool (ng gv)) := H.cell m0 0; have zgg_0 := H.frozen (g := gg) m0 0; have kgg_1 : w21.cell? ⟨gg, 1, none⟩ = some (.slice A15 (ln gv) c16) := H.cell m0 1; have zgg_1 := H.frozen (g := gg) m0 1; have kgy_0 : w21.cell? ⟨gy, 0, none⟩ = some (.bool (ng y)) := H.cell m1 0; have zgy_0 := H.frozen (g := gy) m1 0; have kgy_1 : w21.cell? ⟨gy, 1, none⟩ = some (.slice A6 (ln y) c7) := H.cell m1 1; have zgy_1 := H.frozen (g := gy) m1 1; have kgx_0 : w21.cell? ⟨gx, 0, none⟩ = some (.bool (ng x)) := H.cell m2 0; have zgx_0 := H.frozen (g := gx) m2 0; have kgx_1 : w21.cell? ⟨gx, 1, none⟩ = some (.slice A4 (ln x) c5) := H.cell m2 1; have zgx_1 := H.frozen (g := gx) m2 1))
  (try simp only [Act.put, List.setIfInBounds_toArray, List.set_cons_zero, List.set_cons_succ])
  clear kgg_0 zgg_0 kgg_1 zgg_1 kgy_0 zgy_0 kgy_1 zgy_1 kgx_0 zgx_0 kgx_1 zgx_1
  replace H := H.drew
  refine start_ (n := 9) (S := fun w' => w'.cell? ⟨gg, 0, none⟩ = some (.bool (ng gv)) ∧ w'.cell? ⟨gg, 1, none⟩ = some (.slice A15 (ln gv) c16) ∧ w'.cell? ⟨gx, 0, none⟩ = some (.bool (ng x)) ∧ w'.cell? ⟨gx, 1, none⟩ = some (.slice A4 (ln x) c5) ∧ w'.cell? ⟨gy, 0, none⟩ = some (.bool (ng y)) ∧ w'.cell? ⟨gy, 1, none⟩ = some (.slice A6 (ln y) c7)) (ds := []) #[false, false, false, false, false, false, false, false, false] (by kernel_rfl) rfl rfl ⟨H.cell m0 0, H.cell m0 1, H.cell m2 0, H.cell m2 1, H.cell m1 0, H.cell m1 1⟩ (fun hQ => ?_)
  generalize w21.drew = w23 at H hQ ⊢
  refine with_tabW tb13.tab8 tb13.bits8 (fun HT_ HW_ => ?_)
  refine take_ (i := 0) (N := some 37) (v := ?_) (a' := ?_) (bm 9 1) rfl rfl (take_ofW HT_.out HW_.out (by kernel_rfl)) (fun _ _ _ h => h) (Or.inl ⟨by rfl, ?_⟩) hQ ?_ ?_
  rotate_left
  · rintro w' ⟨s0, s1, s2, s3, s4, s5⟩
    go_simp
    with_reducible rfl
  rotate_left
  · simp only [Act.put, List.setIfInBounds_toArray, List.set_cons_zero, List.set_cons_succ, i64_w, i32_w]
    rfl
  refine take_ (i := 1) (N := some 38) (v := ?_) (a' := ?_) (bm 9 3) rfl rfl (take_ofW HT_.out HW_.out (by kernel_rfl)) (fun _ _ _ h => h) (Or.inl ⟨by rfl, ?_⟩) hQ ?_ ?_
  rotate_left
  · rintro w' ⟨s0, s1, s2, s3, s4, s5⟩
    go_simp
    with_reducible rfl
  rotate_left
  · simp only [Act.put, List.setIfInBounds_toArray, List.set_cons_zero, List.set_cons_succ, i64_w, i32_w]
    rfl
  refine take_ (i := 3) (N := some 40) (v := ?_) (a' := ?_) (bm 9 11) rfl rfl (take_ofW HT_.out HW_.out (by kernel_rfl)) (fun _ _ _ h => h) (Or.inl ⟨by rfl, ?_⟩) hQ ?_ ?_
  rotate_left
  · rintro w' ⟨s0, s1, s2, s3, s4, s5⟩
    go_simp
    with_reducible rfl
  rotate_left
  · simp only [Act.put, List.setIfInBounds_toArray, List.set_cons_zero, List.set_cons_succ, i64_w, i32_w]
    rfl
  refine one_ (i := 2) (N := some 39) (bm 9 15) rfl rfl (one_of HT_.out (by kernel_rfl)) (by decide) (fun K hK => ?_)
  refine goes_ Try.func35 (by kernel_rfl) rfl #[.agg #[.bool (ng x), .slice A4 (ln x) c5]] (by rfl) rfl rfl (by simp only [List.map_toArray, List.map_cons, List.map_nil]; try rfl) ?_
  with_reducible refine (AbsQ (H.row _ m2) (lim bx.out (by decide)) ax hax.out).mono ?_
  rintro e w24 ⟨A25, c26, rfl, hr, hb⟩
  replace H := H.got hr hb
  clear hr hb
  refine ⟨_, rfl, ?_⟩
  refine hK.out _ _ ⟨H.cell m0 0, H.cell m0 1, H.cell m2 0, H.cell m2 1, H.cell m1 0, H.cell m1 1⟩ (fun hQ => ?_)
  clear hK K
  refine norm_ (a' := ?_) ?_ ?_
  rotate_left
  · show Act.put _ (some 39) _ = _
    simp only [Act.put, List.setIfInBounds_toArray, List.set_cons_zero, List.set_cons_succ, i64_w, i32_w]
    rfl
  refine one_ (i := 4) (N := some 41) (bm 9 31) rfl rfl (one_of HT_.out (by kernel_rfl)) (by decide) (fun K hK => ?_)
  refine goes_ Try.func35 (by kernel_rfl) rfl #[.agg #[.bool (ng y), .slice A6 (ln y) c7]] (by rfl) rfl rfl (by simp only [List.map_toArray, List.map_cons, List.map_nil]; try rfl) ?_
  with_reducible refine (AbsQ (H.row _ m2) (lim bY.out (by decide)) ay hay.out).mono ?_
  rintro e w27 ⟨A28, c29, rfl, hr, hb⟩
  replace H := H.got hr hb
  clear hr hb
  refine ⟨_, rfl, ?_⟩
  refine hK.out _ _ ⟨H.cell m0 0, H.cell m0 1, H.cell m2 0, H.cell m2 1, H.cell m1 0, H.cell m1 1⟩ (fun hQ => ?_)
  clear hK K
  refine norm_ (a' := ?_) ?_ ?_
  rotate_left
  · show Act.put _ (some 41) _ = _
    simp only [Act.put, List.setIfInBounds_toArray, List.set_cons_zero, List.set_cons_succ, i64_w, i32_w]
    rfl
  refine one_ (i := 5) (N := some 42) (bm 9 63) rfl rfl (one_of HT_.out (by kernel_rfl)) (by decide) (fun K hK => ?_)
  refine goes_ Try.func28 (by kernel_rfl) rfl #[.agg #[.bool (ng ax), .slice A25 (ln ax) c26], .agg #[.bool (ng ay), .slice A28 (ln ay) c29]] (by rfl) rfl rfl (by simp only [List.map_toArray, List.map_cons, List.map_nil]; try rfl) ?_
  with_reducible refine (AddQ (H.row _ m1) (H.row _ m0) (lim bax.out (by decide)) (lim bay.out (by decide)) s hs.out).mono ?_
  rintro e w30 ⟨A31, c32, rfl, hr, hb⟩
  replace H := H.got hr hb
  clear hr hb
  refine ⟨_, rfl, ?_⟩
  refine hK.out _ _ ⟨H.cell m0 0, H.cell m0 1, H.cell m2 0, H.cell m2 1, H.cell m1 0, H.cell m1 1⟩ (fun hQ => ?_)
  clear hK K
  refine norm_ (a' := ?_) ?_ ?_
  rotate_left
  · show Act.put _ (some 42) _ = _
    simp only [Act.put, List.setIfInBounds_toArray, List.set_cons_zero, List.set_cons_succ, i64_w, i32_w]
    rfl
  refine one_ (i := 6) (N := some 43) (bm 9 127) rfl rfl (one_of HT_.out (by kernel_rfl)) (by decide) (fun K hK => ?_)
  refine goes_ Try.func34 (by kernel_rfl) rfl #[.agg #[.bool (ng gv), .slice A15 (ln gv) c16], .agg #[.bool (ng s), .slice A31 (ln s) c32]] (by rfl) rfl rfl (by simp only [List.map_toArray, List.map_cons, List.map_nil]; try rfl) ?_
  with_reducible refine (CmpQ (H.row _ m3) (H.row _ m0) (lim bgv.out (by decide)) (lim bs.out (by decide)) 0 hk.out).mono ?_
  rintro e w33 ⟨rfl, hb⟩
  replace H := H.call hb
  clear hb
  refine ⟨_, rfl, ?_⟩
  refine hK.out _ _ ⟨H.cell m0 0, H.cell m0 1, H.cell m2 0, H.cell m2 1, H.cell m1 0, H.cell m1 1⟩ (fun hQ => ?_)
  clear hK K
  refine norm_ (a' := ?_) ?_ ?_
  rotate_left
  · show Act.put _ (some 43) _ = _
    simp only [Act.put, List.setIfInBounds_toArray, List.set_cons_zero, List.set_cons_succ, i64_w, i32_w]
    rfl
  refine pure_ (i := 7) (N := some 44) (v := ?_) (a' := ?_) (bm 9 255) rfl rfl (any_of HT_.out (by kernel_rfl)) (fun _ _ _ h => h) (Or.inl ⟨by rfl, ?_⟩) ?_ ?_
  rotate_left
  · intro w'
    go_simp
    with_reducible rfl
  rotate_left
  · simp only [Act.put, List.setIfInBounds_toArray, List.set_cons_zero, List.set_cons_succ, i64_w, i32_w]
    rfl
  refine pure_ (i := 8) (N := some 4) (v := ?_) (a' := ?_) (bm 9 511) rfl rfl (any_of HT_.out (by kernel_rfl)) (fun _ _ _ h => h) (Or.inl ⟨by rfl, ?_⟩) ?_ ?_
  rotate_left
  · intro w'
    go_simp
    with_reducible rfl
  rotate_left
  · simp only [Act.put, List.setIfInBounds_toArray, List.set_cons_zero, List.set_cons_succ, i64_w, i32_w]
    rfl
  refine done_ (done_of HT_.out (by kernel_rfl)) ?_
  try clear hQ
  go_wp2
  go_ret
  exact ⟨rfl, H.below⟩


theorem gcd_y (a b : ByteArray) (w : World) (x y : Int) (bx : Aside0 (ln x ≤ 10)) (bY : Aside0 (ln y ≤ 10)) (gv : Int) (hgv : Aside0 (((Int.gcd x y : Nat) : Int) = gv)) (bgv : Aside0 (ln gv ≤ 10)) (sx : Int) (hsx : Aside0 (sg x = sx)) (hsx0 : Aside0 (sx ≠ 0)) (hz : Aside0 (y = 0)) (hsz : Aside0 (sg y = 0)) (hAB : Aside0 (∀ w, Calls Try.prog 33 #[.string a, .string b] w (RetTwo w x y true))) : Calls Try.prog 13 #[.string a, .string b] w (fun e W' => e = .returned (.bool true) ∧ Below w.heap.size w W') := by
  obtain ⟨ax, eax⟩ : ∃ v : Int, ((x.natAbs : Nat) : Int) = v := ⟨_, rfl⟩
  obtain ⟨ay, eay⟩ : ∃ v : Int, ((y.natAbs : Nat) : Int) = v := ⟨_, rfl⟩
  obtain ⟨s, es⟩ : ∃ v : Int, ax + ay = v := ⟨_, rfl⟩
  have bax := Aside0.mk (bAbs bx.out (show ax.natAbs ≤ x.natAbs by omega))
  have bay := Aside0.mk (bAbs bY.out (show ay.natAbs ≤ y.natAbs by omega))
  have bs := Aside0.mk (bAdd bax.out bay.out es)
  have hk := Aside0.mk (show cmp3 gv s = 0 from cmp3_eq (by rw [← hgv.out, ← es, ← eax, ← eay, hz.out]; simp))
  have hax := Aside0.mk eax
  have hay := Aside0.mk eay
  have hs := Aside0.mk es
  clear eax eay es
  have d1 : (sx == 0) = false := beq_eq_false_iff_ne.mpr hsx0.out
  have hu25 := Try.underlying25
  have H := Sit.start w (fun _ => False)
  go_enter Try.func13, Try.ntmps13
  have st2 := trivial
  have st8 := trivial
  have st10 := trivial
  have st12 := trivial
  go_upto_region 4 with (first
    | (clear st2; go_at_call 22; (with_reducible refine (awake_ok _).mono ?_); rintro e wA ⟨rfl, hb⟩; replace H := H.call hb; clear hb)
    | (clear st8; go_at_call 33; (with_reducible refine (hAB.out _).mono ?_); rintro e w3 ⟨A4, c5, A6, c7, rfl, hr, hr2, hb⟩; replace H := (H.got (fresh_row hr) hb).more ((H.got (fresh_row hr2) hb).row _ m0); clear hr hr2 hb)
    | (clear st10; (with_reducible refine gate_dst (N := 5) rfl ?_); refine box_event ?hg (N := 5) ?hd (cs := #[.bool false, .slice none 0 0]) (t := 25) ?hr ?_; (case hd => rfl); (case hg => rfl); (case hr => go_simp; try rfl); intro gx hg w9 hbox hb; replace H := H.newbox hg hbox hb; clear hg hbox hb; have kgx_0 : w9.cell? ⟨gx, 0, none⟩ = some (.bool false) := H.cell m0 0; have zgx_0 := H.frozen (g := gx) m0 0; have kgx_1 : w9.cell? ⟨gx, 1, none⟩ = some (.slice none 0 0) := H.cell m0 1; have zgx_1 := H.frozen (g := gx) m0 1)
    | (clear st12; (with_reducible refine gate_dst (N := 6) rfl ?_); refine box_event ?hg (N := 6) ?hd (cs := #[.bool false, .slice none 0 0]) (t := 25) ?hr ?_; (case hd => rfl); (case hg => rfl); (case hr => go_simp; try rfl); intro gy hg w11 hbox hb; replace H := H.newbox hg hbox hb; clear hg hbox hb; clear kgx_0 zgx_0 kgx_1 zgx_1; have kgy_0 : w11.cell? ⟨gy, 0, none⟩ = some (.bool false) := H.cell m0 0; have zgy_0 := H.frozen (g := gy) m0 0; have kgy_1 : w11.cell? ⟨gy, 1, none⟩ = some (.slice none 0 0) := H.cell m0 1; have zgy_1 := H.frozen (g := gy) m0 1; have kgx_0 : w11.cell? ⟨gx, 0, none⟩ = some (.bool false) := H.cell m1 0; have zgx_0 := H.frozen (g := gx) m1 0; have kgx_1 : w11.cell? ⟨gx, 1, none⟩ = some (.slice none 0 0) := H.cell m1 1; have zgx_1 := H.frozen (g := gx) m1 1; have ne_gy_gx := H.ne (g := gy) (g' := gx) 0 1 rfl rfl (by decide); have ne_gx_gy := ne_gy_gx.symm))
  (try simp only [Act.put, List.setIfInBounds_toArray, List.set_cons_zero, List.set_cons_succ])
  replace H := ((((H.setn [_] 0 (.bool (ng x)) rfl).setn [_] 1 (.slice A4 (ln x) c5) rfl).setn [] 0 (.bool (ng y)) rfl).setn [] 1 (.slice A6 (ln y) c7) rfl)
  clear kgy_0 zgy_0 kgy_1 zgy_1 kgx_0 zgx_0 kgx_1 zgx_1
  generalize ((((w11.setCell ⟨gx, 0, none⟩ (.bool (ng x))).setCell ⟨gx, 1, none⟩ (.slice A4 (ln x) c5)).setCell ⟨gy, 0, none⟩ (.bool (ng y))).setCell ⟨gy, 1, none⟩ (.slice A6 (ln y) c7)) = w13 at H ⊢
  have kgy_0 : w13.cell? ⟨gy, 0, none⟩ = some (.bool (ng y)) := H.cell m0 0
  have zgy_0 := H.frozen (g := gy) m0 0
  have kgy_1 : w13.cell? ⟨gy, 1, none⟩ = some (.slice A6 (ln y) c7) := H.cell m0 1
  have zgy_1 := H.frozen (g := gy) m0 1
  have kgx_0 : w13.cell? ⟨gx, 0, none⟩ = some (.bool (ng x)) := H.cell m1 0
  have zgx_0 := H.frozen (g := gx) m1 0
  have kgx_1 : w13.cell? ⟨gx, 1, none⟩ = some (.slice A4 (ln x) c5) := H.cell m1 1
  have zgx_1 := H.frozen (g := gx) m1 1
  have st17 := trivial
  have st19 := trivial
  go_upto_region 7 with (first
    | (clear st17; go_at_call 61; (with_reducible refine (GcdQ (H.row _ m1) (H.row _ m0) (lim bx.out (by decide)) (lim bY.out (by decide)) gv hgv.out).mono ?_); rintro e w14 ⟨A15, c16, rfl, hr, hb⟩; replace H := H.got hr hb; clear hr hb; clear kgy_0 zgy_0 kgy_1 zgy_1 kgx_0 zgx_0 kgx_1 zgx_1; have kgy_0 : w14.cell? ⟨gy, 0, none⟩ = some (.bool (ng y)) := H.cell m0 0; have zgy_0 := H.frozen (g := gy) m0 0; have kgy_1 : w14.cell? ⟨gy, 1, none⟩ = some (.slice A6 (ln y) c7) := H.cell m0 1; have zgy_1 := H.frozen (g := gy) m0 1; have kgx_0 : w14.cell? ⟨gx, 0, none⟩ = some (.bool (ng x)) := H.cell m1 0; have zgx_0 := H.frozen (g := gx) m1 0; have kgx_1 : w14.cell? ⟨gx, 1, none⟩ = some (.slice A4 (ln x) c5) := H.cell m1 1; have zgx_1 := H.frozen (g := gx) m1 1)
    | (clear st19; (with_reducible refine gate_dst (N := 8) rfl ?_); refine box_event ?hg (N := 8) ?hd (cs := #[.bool false, .slice none 0 0]) (t := 25) ?hr ?_; (case hd => rfl); (case hg => rfl); (case hr => go_simp; try rfl); intro gg hg w18 hbox hb; replace H := H.newbox hg hbox hb; clear hg hbox hb; clear kgy_0 zgy_0 kgy_1 zgy_1 kgx_0 zgx_0 kgx_1 zgx_1; have kgg_0 : w18.cell? ⟨gg, 0, none⟩ = some (.bool false) := H.cell m0 0; have zgg_0 := H.frozen (g := gg) m0 0; have kgg_1 : w18.cell? ⟨gg, 1, none⟩ = some (.slice none 0 0) := H.cell m0 1; have zgg_1 := H.frozen (g := gg) m0 1; have kgy_0 : w18.cell? ⟨gy, 0, none⟩ = some (.bool (ng y)) := H.cell m1 0; have zgy_0 := H.frozen (g := gy) m1 0; have kgy_1 : w18.cell? ⟨gy, 1, none⟩ = some (.slice A6 (ln y) c7) := H.cell m1 1; have zgy_1 := H.frozen (g := gy) m1 1; have kgx_0 : w18.cell? ⟨gx, 0, none⟩ = some (.bool (ng x)) := H.cell m2 0; have zgx_0 := H.frozen (g := gx) m2 0; have kgx_1 : w18.cell? ⟨gx, 1, none⟩ = some (.slice A4 (ln x) c5) := H.cell m2 1; have zgx_1 := H.frozen (g := gx) m2 1; have ne_gg_gy := H.ne (g := gg) (g' := gy) 0 1 rfl rfl (by decide); have ne_gy_gg := ne_gg_gy.symm; have ne_gg_gx := H.ne (g := gg) (g' := gx) 0 2 rfl rfl (by decide); have ne_gx_gg := ne_gg_gx.symm))
  (try simp only [Act.put, List.setIfInBounds_toArray, List.set_cons_zero, List.set_cons_succ])
  replace H := ((H.setn [] 0 (.bool (ng gv)) rfl).setn [] 1 (.slice A15 (ln gv) c16) rfl)
  clear kgg_0 zgg_0 kgg_1 zgg_1 kgy_0 zgy_0 kgy_1 zgy_1 kgx_0 zgx_0 kgx_1 zgx_1
  generalize ((w18.setCell ⟨gg, 0, none⟩ (.bool (ng gv))).setCell ⟨gg, 1, none⟩ (.slice A15 (ln gv) c16)) = w20 at H ⊢
  have kgg_0 : w20.cell? ⟨gg, 0, none⟩ = some (.bool (ng gv)) := H.cell m0 0
  have zgg_0 := H.frozen (g := gg) m0 0
  have kgg_1 : w20.cell? ⟨gg, 1, none⟩ = some (.slice A15 (ln gv) c16) := H.cell m0 1
  have zgg_1 := H.frozen (g := gg) m0 1
  have kgy_0 : w20.cell? ⟨gy, 0, none⟩ = some (.bool (ng y)) := H.cell m1 0
  have zgy_0 := H.frozen (g := gy) m1 0
  have kgy_1 : w20.cell? ⟨gy, 1, none⟩ = some (.slice A6 (ln y) c7) := H.cell m1 1
  have zgy_1 := H.frozen (g := gy) m1 1
  have kgx_0 : w20.cell? ⟨gx, 0, none⟩ = some (.bool (ng x)) := H.cell m2 0
  have zgx_0 := H.frozen (g := gx) m2 0
  have kgx_1 : w20.cell? ⟨gx, 1, none⟩ = some (.slice A4 (ln x) c5) := H.cell m2 1
  have zgx_1 := H.frozen (g := gx) m2 1
  have st22 := trivial
  have st24 := trivial
  go_upto_region 8 with (first
    | (clear st22; go_at_call 25; (with_reducible refine (SignQ _ _ _ (lim bx.out (by decide)) sx hsx.out).mono ?_); rintro e w21 ⟨rfl, hb⟩; replace H := H.call hb; clear hb; clear kgg_0 zgg_0 kgg_1 zgg_1 kgy_0 zgy_0 kgy_1 zgy_1 kgx_0 zgx_0 kgx_1 zgx_1; have kgg_0 : w21.cell? ⟨gg, 0, none⟩ = some (.bool (ng gv)) := H.cell m0 0; have zgg_0 := H.frozen (g := gg) m0 0; have kgg_1 : w21.cell? ⟨gg, 1, none⟩ = some (.slice A15 (ln gv) c16) := H.cell m0 1; have zgg_1 := H.frozen (g := gg) m0 1; have kgy_0 : w21.cell? ⟨gy, 0, none⟩ = some (.bool (ng y)) := H.cell m1 0; have zgy_0 := H.frozen (g := gy) m1 0; have kgy_1 : w21.cell? ⟨gy, 1, none⟩ = some (.slice A6 (ln y) c7) := H.cell m1 1; have zgy_1 := H.frozen (g := gy) m1 1; have kgx_0 : w21.cell? ⟨gx, 0, none⟩ = some (.bool (ng x)) := H.cell m2 0; have zgx_0 := H.frozen (g := gx) m2 0; have kgx_1 : w21.cell? ⟨gx, 1, none⟩ = some (.slice A4 (ln x) c5) := H.cell m2 1; have zgx_1 := H.frozen (g := gx) m2 1)
    | (clear st24; go_at_call 25; (with_reducible refine (SignQ _ _ _ (lim bY.out (by decide)) 0 hsz.out).mono ?_); rintro e w23 ⟨rfl, hb⟩; replace H := H.call hb; clear hb; clear kgg_0 zgg_0 kgg_1 zgg_1 kgy_0 zgy_0 kgy_1 zgy_1 kgx_0 zgx_0 kgx_1 zgx_1; have kgg_0 : w23.cell? ⟨gg, 0, none⟩ = some (.bool (ng gv)) := H.cell m0 0; have zgg_0 := H.frozen (g := gg) m0 0; have kgg_1 : w23.cell? ⟨gg, 1, none⟩ = some (.slice A15 (ln gv) c16) := H.cell m0 1; have zgg_1 := H.frozen (g := gg) m0 1; have kgy_0 : w23.cell? ⟨gy, 0, none⟩ = some (.bool (ng y)) := H.cell m1 0; have zgy_0 := H.frozen (g := gy) m1 0; have kgy_1 : w23.cell? ⟨gy, 1, none⟩ = some (.slice A6 (ln y) c7) := H.cell m1 1; have zgy_1 := H.frozen (g := gy) m1 1; have kgx_0 : w23.cell? ⟨gx, 0, none⟩ = some (.bool (ng x)) := H.cell m2 0; have zgx_0 := H.frozen (g := gx) m2 0; have kgx_1 : w23.cell? ⟨gx, 1, none⟩ = some (.slice A4 (ln x) c5) := H.cell m2 1; have zgx_1 := H.frozen (g := gx) m2 1))
  (try simp only [Act.put, List.setIfInBounds_toArray, List.set_cons_zero, List.set_cons_succ])
  clear kgg_0 zgg_0 kgg_1 zgg_1 kgy_0 zgy_0 kgy_1 zgy_1 kgx_0 zgx_0 kgx_1 zgx_1
  replace H := H.drew
  refine start_ (n := 9) (S := fun w' => w'.cell? ⟨gg, 0, none⟩ = some (.bool (ng gv)) ∧ w'.cell? ⟨gg, 1, none⟩ = some (.slice A15 (ln gv) c16) ∧ w'.cell? ⟨gx, 0, none⟩ = some (.bool (ng x)) ∧ w'.cell? ⟨gx, 1, none⟩ = some (.slice A4 (ln x) c5) ∧ w'.cell? ⟨gy, 0, none⟩ = some (.bool (ng y)) ∧ w'.cell? ⟨gy, 1, none⟩ = some (.slice A6 (ln y) c7)) (ds := []) #[false, false, false, false, false, false, false, false, false] (by kernel_rfl) rfl rfl ⟨H.cell m0 0, H.cell m0 1, H.cell m2 0, H.cell m2 1, H.cell m1 0, H.cell m1 1⟩ (fun hQ => ?_)
  generalize w23.drew = w25 at H hQ ⊢
  refine with_tabW tb13.tab8 tb13.bits8 (fun HT_ HW_ => ?_)
  refine take_ (i := 0) (N := some 37) (v := ?_) (a' := ?_) (bm 9 1) rfl rfl (take_ofW HT_.out HW_.out (by kernel_rfl)) (fun _ _ _ h => h) (Or.inl ⟨by rfl, ?_⟩) hQ ?_ ?_
  rotate_left
  · rintro w' ⟨s0, s1, s2, s3, s4, s5⟩
    go_simp
    with_reducible rfl
  rotate_left
  · simp only [Act.put, List.setIfInBounds_toArray, List.set_cons_zero, List.set_cons_succ, i64_w, i32_w]
    rfl
  refine take_ (i := 1) (N := some 38) (v := ?_) (a' := ?_) (bm 9 3) rfl rfl (take_ofW HT_.out HW_.out (by kernel_rfl)) (fun _ _ _ h => h) (Or.inl ⟨by rfl, ?_⟩) hQ ?_ ?_
  rotate_left
  · rintro w' ⟨s0, s1, s2, s3, s4, s5⟩
    go_simp
    with_reducible rfl
  rotate_left
  · simp only [Act.put, List.setIfInBounds_toArray, List.set_cons_zero, List.set_cons_succ, i64_w, i32_w]
    rfl
  refine take_ (i := 3) (N := some 40) (v := ?_) (a' := ?_) (bm 9 11) rfl rfl (take_ofW HT_.out HW_.out (by kernel_rfl)) (fun _ _ _ h => h) (Or.inl ⟨by rfl, ?_⟩) hQ ?_ ?_
  rotate_left
  · rintro w' ⟨s0, s1, s2, s3, s4, s5⟩
    go_simp
    with_reducible rfl
  rotate_left
  · simp only [Act.put, List.setIfInBounds_toArray, List.set_cons_zero, List.set_cons_succ, i64_w, i32_w]
    rfl
  refine one_ (i := 2) (N := some 39) (bm 9 15) rfl rfl (one_of HT_.out (by kernel_rfl)) (by decide) (fun K hK => ?_)
  refine goes_ Try.func35 (by kernel_rfl) rfl #[.agg #[.bool (ng x), .slice A4 (ln x) c5]] (by rfl) rfl rfl (by simp only [List.map_toArray, List.map_cons, List.map_nil]; try rfl) ?_
  with_reducible refine (AbsQ (H.row _ m2) (lim bx.out (by decide)) ax hax.out).mono ?_
  rintro e w26 ⟨A27, c28, rfl, hr, hb⟩
  replace H := H.got hr hb
  clear hr hb
  refine ⟨_, rfl, ?_⟩
  refine hK.out _ _ ⟨H.cell m0 0, H.cell m0 1, H.cell m2 0, H.cell m2 1, H.cell m1 0, H.cell m1 1⟩ (fun hQ => ?_)
  clear hK K
  refine norm_ (a' := ?_) ?_ ?_
  rotate_left
  · show Act.put _ (some 39) _ = _
    simp only [Act.put, List.setIfInBounds_toArray, List.set_cons_zero, List.set_cons_succ, i64_w, i32_w]
    rfl
  refine one_ (i := 4) (N := some 41) (bm 9 31) rfl rfl (one_of HT_.out (by kernel_rfl)) (by decide) (fun K hK => ?_)
  refine goes_ Try.func35 (by kernel_rfl) rfl #[.agg #[.bool (ng y), .slice A6 (ln y) c7]] (by rfl) rfl rfl (by simp only [List.map_toArray, List.map_cons, List.map_nil]; try rfl) ?_
  with_reducible refine (AbsQ (H.row _ m2) (lim bY.out (by decide)) ay hay.out).mono ?_
  rintro e w29 ⟨A30, c31, rfl, hr, hb⟩
  replace H := H.got hr hb
  clear hr hb
  refine ⟨_, rfl, ?_⟩
  refine hK.out _ _ ⟨H.cell m0 0, H.cell m0 1, H.cell m2 0, H.cell m2 1, H.cell m1 0, H.cell m1 1⟩ (fun hQ => ?_)
  clear hK K
  refine norm_ (a' := ?_) ?_ ?_
  rotate_left
  · show Act.put _ (some 41) _ = _
    simp only [Act.put, List.setIfInBounds_toArray, List.set_cons_zero, List.set_cons_succ, i64_w, i32_w]
    rfl
  refine one_ (i := 5) (N := some 42) (bm 9 63) rfl rfl (one_of HT_.out (by kernel_rfl)) (by decide) (fun K hK => ?_)
  refine goes_ Try.func28 (by kernel_rfl) rfl #[.agg #[.bool (ng ax), .slice A27 (ln ax) c28], .agg #[.bool (ng ay), .slice A30 (ln ay) c31]] (by rfl) rfl rfl (by simp only [List.map_toArray, List.map_cons, List.map_nil]; try rfl) ?_
  with_reducible refine (AddQ (H.row _ m1) (H.row _ m0) (lim bax.out (by decide)) (lim bay.out (by decide)) s hs.out).mono ?_
  rintro e w32 ⟨A33, c34, rfl, hr, hb⟩
  replace H := H.got hr hb
  clear hr hb
  refine ⟨_, rfl, ?_⟩
  refine hK.out _ _ ⟨H.cell m0 0, H.cell m0 1, H.cell m2 0, H.cell m2 1, H.cell m1 0, H.cell m1 1⟩ (fun hQ => ?_)
  clear hK K
  refine norm_ (a' := ?_) ?_ ?_
  rotate_left
  · show Act.put _ (some 42) _ = _
    simp only [Act.put, List.setIfInBounds_toArray, List.set_cons_zero, List.set_cons_succ, i64_w, i32_w]
    rfl
  refine one_ (i := 6) (N := some 43) (bm 9 127) rfl rfl (one_of HT_.out (by kernel_rfl)) (by decide) (fun K hK => ?_)
  refine goes_ Try.func34 (by kernel_rfl) rfl #[.agg #[.bool (ng gv), .slice A15 (ln gv) c16], .agg #[.bool (ng s), .slice A33 (ln s) c34]] (by rfl) rfl rfl (by simp only [List.map_toArray, List.map_cons, List.map_nil]; try rfl) ?_
  with_reducible refine (CmpQ (H.row _ m3) (H.row _ m0) (lim bgv.out (by decide)) (lim bs.out (by decide)) 0 hk.out).mono ?_
  rintro e w35 ⟨rfl, hb⟩
  replace H := H.call hb
  clear hb
  refine ⟨_, rfl, ?_⟩
  refine hK.out _ _ ⟨H.cell m0 0, H.cell m0 1, H.cell m2 0, H.cell m2 1, H.cell m1 0, H.cell m1 1⟩ (fun hQ => ?_)
  clear hK K
  refine norm_ (a' := ?_) ?_ ?_
  rotate_left
  · show Act.put _ (some 43) _ = _
    simp only [Act.put, List.setIfInBounds_toArray, List.set_cons_zero, List.set_cons_succ, i64_w, i32_w]
    rfl
  refine pure_ (i := 7) (N := some 44) (v := ?_) (a' := ?_) (bm 9 255) rfl rfl (any_of HT_.out (by kernel_rfl)) (fun _ _ _ h => h) (Or.inl ⟨by rfl, ?_⟩) ?_ ?_
  rotate_left
  · intro w'
    go_simp
    with_reducible rfl
  rotate_left
  · simp only [Act.put, List.setIfInBounds_toArray, List.set_cons_zero, List.set_cons_succ, i64_w, i32_w]
    rfl
  refine pure_ (i := 8) (N := some 4) (v := ?_) (a' := ?_) (bm 9 511) rfl rfl (any_of HT_.out (by kernel_rfl)) (fun _ _ _ h => h) (Or.inl ⟨by rfl, ?_⟩) ?_ ?_
  rotate_left
  · intro w'
    go_simp
    with_reducible rfl
  rotate_left
  · simp only [Act.put, List.setIfInBounds_toArray, List.set_cons_zero, List.set_cons_succ, i64_w, i32_w]
    rfl
  refine done_ (done_of HT_.out (by kernel_rfl)) ?_
  try clear hQ
  go_wp2
  go_ret
  exact ⟨rfl, H.below⟩

theorem gcd_quot {x y gv p q : Int} (hg : ((Int.gcd x y : Nat) : Int) = gv) (hx : x ≠ 0) (hp : x.tdiv gv = p) (hq : y.tdiv gv = q) : ((Int.gcd p q : Nat) : Int) = 1 := by
  have h0 : 0 < Nat.gcd x.natAbs y.natAbs := Nat.gcd_pos_of_pos_left _ (by omega)
  have e1 : p.natAbs = x.natAbs / Nat.gcd x.natAbs y.natAbs := by rw [← hp, Int.natAbs_tdiv, ← hg, Int.natAbs_natCast]; rfl
  have e2 : q.natAbs = y.natAbs / Nat.gcd x.natAbs y.natAbs := by rw [← hq, Int.natAbs_tdiv, ← hg, Int.natAbs_natCast]; rfl
  have e3 : Int.gcd p q = Nat.gcd p.natAbs q.natAbs := rfl
  rw [e3, e1, e2, Nat.gcd_div (Nat.gcd_dvd_left _ _) (Nat.gcd_dvd_right _ _), Nat.div_self h0]; rfl
theorem gcd_le {x y gv : Int} (hg : ((Int.gcd x y : Nat) : Int) = gv) (hx : x ≠ 0) : gv.natAbs ≤ x.natAbs := by
  rw [← hg, Int.natAbs_natCast]; exact Nat.gcd_le_left _ (by omega)
theorem sg_ne' {m : Int} (h : m ≠ 0) : sg m ≠ 0 := by unfold sg; repeat' split <;> omega
theorem sg_z' {m : Int} (h : m = 0) : sg m = 0 := by rw [h]; rfl

def tb13.T11 : Bool × List (List Nat × List Nat) := (true, [([], []), ([0], [0]), ([1], [1]), ([2, 1], [2]), ([3], [3]), ([4, 3], [3, 4]), ([3, 5], [3, 5]), ([6, 3], [6]), ([7], [7]), ([8, 7], [7, 8]), ([7, 9], [7, 9]), ([10, 7], [10]), ([11], [11]), ([12, 11, 11], [11, 12]), ([13, 11], [11, 13]), ([11, 14], [11, 14]), ([15, 13], [15]), ([16], [16]), ([17, 16, 16], [16, 17]), ([18, 16], [16, 18]), ([16, 19], [16, 19]), ([20, 18], [20]), ([21], [21]), ([21], [21]), ([22, 23, 21, 21], [21, 22, 23]), ([24, 21], [21]), ([24, 25, 25, 21], [21, 24, 25]), ([26, 21], [21, 26]), ([21, 27], [21, 27]), ([28, 26], [28]), ([29], [29]), ([29], [29]), ([30, 31, 29, 29], [29, 30, 31]), ([29], [29]), ([32, 33, 32, 29], [29, 32, 33]), ([34, 29], [29, 34]), ([29, 35], [29, 35]), ([36, 34, 0, 1, 2, 3, 4, 5, 6, 7, 8, 9, 10, 11, 12, 13, 14, 15, 16, 17, 18, 19, 20, 21, 22, 23, 24, 25, 26, 27, 28, 29, 30, 31, 32, 33, 34, 35, 36], [36])])
def tb13.B11 : List Nat := [0, 1, 3, 7, 15, 31, 63, 127, 255, 511, 1023, 2047, 4095, 8191, 16383, 32767, 65535, 131071, 262143, 524287, 1048575, 2097151, 4194303, 4194303, 16777215, 33554431, 67108863, 134217727, 268435455, 536870911, 1073741823, 1073741823, 4294967295, 1073741823, 17179869183, 34359738367, 68719476735, 137438953471]
theorem tb13.tab11 : rtab .any (opsOf Try.f13 11) = tb13.T11 := by kernel_rfl
theorem tb13.bits11 : waitsOk tb13.T11.2 tb13.B11 = true := by kernel_rfl

theorem gcd_t (a b : ByteArray) (w : World) (x y : Int) (bx : Aside0 (ln x ≤ 10)) (bY : Aside0 (ln y ≤ 10)) (gv : Int) (hgv : Aside0 (((Int.gcd x y : Nat) : Int) = gv)) (bgv : Aside0 (ln gv ≤ 10)) (p q r t sx sy : Int) (hg0 : Aside0 (gv ≠ 0)) (hsg : Aside0 (sg gv = 1)) (hx0 : Aside0 (x ≠ 0)) (hsx : Aside0 (sg x = sx)) (hsx0 : Aside0 (sx ≠ 0)) (hsy : Aside0 (sg y = sy)) (hsy0 : Aside0 (sy ≠ 0)) (hp : Aside0 (x.tdiv gv = p)) (hr' : Aside0 (x.tmod gv = r)) (hq : Aside0 (y.tdiv gv = q)) (ht : Aside0 (y.tmod gv = t)) (hsr : Aside0 (sg r = 0)) (hst : Aside0 (sg t = 0)) (hAB : Aside0 (∀ w, Calls Try.prog 33 #[.string a, .string b] w (RetTwo w x y true))) : Calls Try.prog 13 #[.string a, .string b] w (fun e W' => e = .returned (.bool true) ∧ Below w.heap.size w W') := by
  have d1 : (sx == 0) = false := beq_eq_false_iff_ne.mpr hsx0.out
  have d2 : (sy == 0) = false := beq_eq_false_iff_ne.mpr hsy0.out
  obtain ⟨i, ei⟩ : ∃ v : Int, (1 : Int) = v := ⟨_, rfl⟩
  obtain ⟨e, ee⟩ : ∃ v : Int, ((Int.gcd p q : Nat) : Int) = v := ⟨_, rfl⟩
  obtain ⟨gw, egw⟩ : ∃ v : Int, ((Int.gcd y x : Nat) : Int) = v := ⟨_, rfl⟩
  have he1 : e = i := by rw [← ee, ← ei]; exact gcd_quot hgv.out hx0.out hp.out hq.out
  have bp := Aside0.mk (bTdiv bx.out hp.out)
  have bq := Aside0.mk (bTdiv bY.out hq.out)
  have br := Aside0.mk (bTmod bx.out hr'.out)
  have bt := Aside0.mk (bTmod bY.out ht.out)
  have bi := Aside0.mk (show ln i ≤ 1 from ln_bound i 1 (by omega))
  have be := Aside0.mk (show ln e ≤ 1 by rw [he1]; exact bi.out)
  have hgg : gw = gv := by rw [← egw, ← hgv.out, Int.gcd_comm]
  have bgw := Aside0.mk (show ln gw ≤ 10 by rw [hgg]; exact bgv.out)
  have hk1 := Aside0.mk (show cmp3 e i = 0 from cmp3_eq he1)
  have hk2 := Aside0.mk (show cmp3 gw gv = 0 from cmp3_eq hgg)
  have hi := Aside0.mk ei
  have he := Aside0.mk ee
  have hgw := Aside0.mk egw
  clear ei ee egw he1 hgg
  have hu25 := Try.underlying25
  have H := Sit.start w (fun _ => False)
  go_enter Try.func13, Try.ntmps13
  have st2 := trivial
  have st8 := trivial
  have st10 := trivial
  have st12 := trivial
  go_upto_region 4 with (first
    | (clear st2; go_at_call 22; (with_reducible refine (awake_ok _).mono ?_); rintro e wA ⟨rfl, hb⟩; replace H := H.call hb; clear hb)
    | (clear st8; go_at_call 33; (with_reducible refine (hAB.out _).mono ?_); rintro e w3 ⟨A4, c5, A6, c7, rfl, hr, hr2, hb⟩; replace H := (H.got (fresh_row hr) hb).more ((H.got (fresh_row hr2) hb).row _ m0); clear hr hr2 hb)
    | (clear st10; (with_reducible refine gate_dst (N := 5) rfl ?_); refine box_event ?hg (N := 5) ?hd (cs := #[.bool false, .slice none 0 0]) (t := 25) ?hr ?_; (case hd => rfl); (case hg => rfl); (case hr => go_simp; try rfl); intro gx hg w9 hbox hb; replace H := H.newbox hg hbox hb; clear hg hbox hb; have kgx_0 : w9.cell? ⟨gx, 0, none⟩ = some (.bool false) := H.cell m0 0; have zgx_0 := H.frozen (g := gx) m0 0; have kgx_1 : w9.cell? ⟨gx, 1, none⟩ = some (.slice none 0 0) := H.cell m0 1; have zgx_1 := H.frozen (g := gx) m0 1)
    | (clear st12; (with_reducible refine gate_dst (N := 6) rfl ?_); refine box_event ?hg (N := 6) ?hd (cs := #[.bool false, .slice none 0 0]) (t := 25) ?hr ?_; (case hd => rfl); (case hg => rfl); (case hr => go_simp; try rfl); intro gy hg w11 hbox hb; replace H := H.newbox hg hbox hb; clear hg hbox hb; clear kgx_0 zgx_0 kgx_1 zgx_1; have kgy_0 : w11.cell? ⟨gy, 0, none⟩ = some (.bool false) := H.cell m0 0; have zgy_0 := H.frozen (g := gy) m0 0; have kgy_1 : w11.cell? ⟨gy, 1, none⟩ = some (.slice none 0 0) := H.cell m0 1; have zgy_1 := H.frozen (g := gy) m0 1; have kgx_0 : w11.cell? ⟨gx, 0, none⟩ = some (.bool false) := H.cell m1 0; have zgx_0 := H.frozen (g := gx) m1 0; have kgx_1 : w11.cell? ⟨gx, 1, none⟩ = some (.slice none 0 0) := H.cell m1 1; have zgx_1 := H.frozen (g := gx) m1 1; have ne_gy_gx := H.ne (g := gy) (g' := gx) 0 1 rfl rfl (by decide); have ne_gx_gy := ne_gy_gx.symm))
  (try simp only [Act.put, List.setIfInBounds_toArray, List.set_cons_zero, List.set_cons_succ])
  replace H := ((((H.setn [_] 0 (.bool (ng x)) rfl).setn [_] 1 (.slice A4 (ln x) c5) rfl).setn [] 0 (.bool (ng y)) rfl).setn [] 1 (.slice A6 (ln y) c7) rfl)
  clear kgy_0 zgy_0 kgy_1 zgy_1 kgx_0 zgx_0 kgx_1 zgx_1
  generalize ((((w11.setCell ⟨gx, 0, none⟩ (.bool (ng x))).setCell ⟨gx, 1, none⟩ (.slice A4 (ln x) c5)).setCell ⟨gy, 0, none⟩ (.bool (ng y))).setCell ⟨gy, 1, none⟩ (.slice A6 (ln y) c7)) = w13 at H ⊢
  have kgy_0 : w13.cell? ⟨gy, 0, none⟩ = some (.bool (ng y)) := H.cell m0 0
  have zgy_0 := H.frozen (g := gy) m0 0
  have kgy_1 : w13.cell? ⟨gy, 1, none⟩ = some (.slice A6 (ln y) c7) := H.cell m0 1
  have zgy_1 := H.frozen (g := gy) m0 1
  have kgx_0 : w13.cell? ⟨gx, 0, none⟩ = some (.bool (ng x)) := H.cell m1 0
  have zgx_0 := H.frozen (g := gx) m1 0
  have kgx_1 : w13.cell? ⟨gx, 1, none⟩ = some (.slice A4 (ln x) c5) := H.cell m1 1
  have zgx_1 := H.frozen (g := gx) m1 1
  have st17 := trivial
  have st19 := trivial
  go_upto_region 7 with (first
    | (clear st17; go_at_call 61; (with_reducible refine (GcdQ (H.row _ m1) (H.row _ m0) (lim bx.out (by decide)) (lim bY.out (by decide)) gv hgv.out).mono ?_); rintro e w14 ⟨A15, c16, rfl, hr, hb⟩; replace H := H.got hr hb; clear hr hb; clear kgy_0 zgy_0 kgy_1 zgy_1 kgx_0 zgx_0 kgx_1 zgx_1; have kgy_0 : w14.cell? ⟨gy, 0, none⟩ = some (.bool (ng y)) := H.cell m0 0; have zgy_0 := H.frozen (g := gy) m0 0; have kgy_1 : w14.cell? ⟨gy, 1, none⟩ = some (.slice A6 (ln y) c7) := H.cell m0 1; have zgy_1 := H.frozen (g := gy) m0 1; have kgx_0 : w14.cell? ⟨gx, 0, none⟩ = some (.bool (ng x)) := H.cell m1 0; have zgx_0 := H.frozen (g := gx) m1 0; have kgx_1 : w14.cell? ⟨gx, 1, none⟩ = some (.slice A4 (ln x) c5) := H.cell m1 1; have zgx_1 := H.frozen (g := gx) m1 1)
    | (clear st19; (with_reducible refine gate_dst (N := 8) rfl ?_); refine box_event ?hg (N := 8) ?hd (cs := #[.bool false, .slice none 0 0]) (t := 25) ?hr ?_; (case hd => rfl); (case hg => rfl); (case hr => go_simp; try rfl); intro gg hg w18 hbox hb; replace H := H.newbox hg hbox hb; clear hg hbox hb; clear kgy_0 zgy_0 kgy_1 zgy_1 kgx_0 zgx_0 kgx_1 zgx_1; have kgg_0 : w18.cell? ⟨gg, 0, none⟩ = some (.bool false) := H.cell m0 0; have zgg_0 := H.frozen (g := gg) m0 0; have kgg_1 : w18.cell? ⟨gg, 1, none⟩ = some (.slice none 0 0) := H.cell m0 1; have zgg_1 := H.frozen (g := gg) m0 1; have kgy_0 : w18.cell? ⟨gy, 0, none⟩ = some (.bool (ng y)) := H.cell m1 0; have zgy_0 := H.frozen (g := gy) m1 0; have kgy_1 : w18.cell? ⟨gy, 1, none⟩ = some (.slice A6 (ln y) c7) := H.cell m1 1; have zgy_1 := H.frozen (g := gy) m1 1; have kgx_0 : w18.cell? ⟨gx, 0, none⟩ = some (.bool (ng x)) := H.cell m2 0; have zgx_0 := H.frozen (g := gx) m2 0; have kgx_1 : w18.cell? ⟨gx, 1, none⟩ = some (.slice A4 (ln x) c5) := H.cell m2 1; have zgx_1 := H.frozen (g := gx) m2 1; have ne_gg_gy := H.ne (g := gg) (g' := gy) 0 1 rfl rfl (by decide); have ne_gy_gg := ne_gg_gy.symm; have ne_gg_gx := H.ne (g := gg) (g' := gx) 0 2 rfl rfl (by decide); have ne_gx_gg := ne_gg_gx.symm))
  (try simp only [Act.put, List.setIfInBounds_toArray, List.set_cons_zero, List.set_cons_succ])
  replace H := ((H.setn [] 0 (.bool (ng gv)) rfl).setn [] 1 (.slice A15 (ln gv) c16) rfl)
  clear kgg_0 zgg_0 kgg_1 zgg_1 kgy_0 zgy_0 kgy_1 zgy_1 kgx_0 zgx_0 kgx_1 zgx_1
  generalize ((w18.setCell ⟨gg, 0, none⟩ (.bool (ng gv))).setCell ⟨gg, 1, none⟩ (.slice A15 (ln gv) c16)) = w20 at H ⊢
  have kgg_0 : w20.cell? ⟨gg, 0, none⟩ = some (.bool (ng gv)) := H.cell m0 0
  have zgg_0 := H.frozen (g := gg) m0 0
  have kgg_1 : w20.cell? ⟨gg, 1, none⟩ = some (.slice A15 (ln gv) c16) := H.cell m0 1
  have zgg_1 := H.frozen (g := gg) m0 1
  have kgy_0 : w20.cell? ⟨gy, 0, none⟩ = some (.bool (ng y)) := H.cell m1 0
  have zgy_0 := H.frozen (g := gy) m1 0
  have kgy_1 : w20.cell? ⟨gy, 1, none⟩ = some (.slice A6 (ln y) c7) := H.cell m1 1
  have zgy_1 := H.frozen (g := gy) m1 1
  have kgx_0 : w20.cell? ⟨gx, 0, none⟩ = some (.bool (ng x)) := H.cell m2 0
  have zgx_0 := H.frozen (g := gx) m2 0
  have kgx_1 : w20.cell? ⟨gx, 1, none⟩ = some (.slice A4 (ln x) c5) := H.cell m2 1
  have zgx_1 := H.frozen (g := gx) m2 1
  have st22 := trivial
  have st24 := trivial
  have st30 := trivial
  have st32 := trivial
  have st34 := trivial
  go_upto_region 10 with (first
    | (clear st22; go_at_call 25; (with_reducible refine (SignQ _ _ _ (lim bx.out (by decide)) sx hsx.out).mono ?_); rintro e w21 ⟨rfl, hb⟩; replace H := H.call hb; clear hb; clear kgg_0 zgg_0 kgg_1 zgg_1 kgy_0 zgy_0 kgy_1 zgy_1 kgx_0 zgx_0 kgx_1 zgx_1; have kgg_0 : w21.cell? ⟨gg, 0, none⟩ = some (.bool (ng gv)) := H.cell m0 0; have zgg_0 := H.frozen (g := gg) m0 0; have kgg_1 : w21.cell? ⟨gg, 1, none⟩ = some (.slice A15 (ln gv) c16) := H.cell m0 1; have zgg_1 := H.frozen (g := gg) m0 1; have kgy_0 : w21.cell? ⟨gy, 0, none⟩ = some (.bool (ng y)) := H.cell m1 0; have zgy_0 := H.frozen (g := gy) m1 0; have kgy_1 : w21.cell? ⟨gy, 1, none⟩ = some (.slice A6 (ln y) c7) := H.cell m1 1; have zgy_1 := H.frozen (g := gy) m1 1; have kgx_0 : w21.cell? ⟨gx, 0, none⟩ = some (.bool (ng x)) := H.cell m2 0; have zgx_0 := H.frozen (g := gx) m2 0; have kgx_1 : w21.cell? ⟨gx, 1, none⟩ = some (.slice A4 (ln x) c5) := H.cell m2 1; have zgx_1 := H.frozen (g := gx) m2 1)
    | (clear st24; go_at_call 25; (with_reducible refine (SignQ _ _ _ (lim bY.out (by decide)) sy hsy.out).mono ?_); rintro e w23 ⟨rfl, hb⟩; replace H := H.call hb; clear hb; clear kgg_0 zgg_0 kgg_1 zgg_1 kgy_0 zgy_0 kgy_1 zgy_1 kgx_0 zgx_0 kgx_1 zgx_1; have kgg_0 : w23.cell? ⟨gg, 0, none⟩ = some (.bool (ng gv)) := H.cell m0 0; have zgg_0 := H.frozen (g := gg) m0 0; have kgg_1 : w23.cell? ⟨gg, 1, none⟩ = some (.slice A15 (ln gv) c16) := H.cell m0 1; have zgg_1 := H.frozen (g := gg) m0 1; have kgy_0 : w23.cell? ⟨gy, 0, none⟩ = some (.bool (ng y)) := H.cell m1 0; have zgy_0 := H.frozen (g := gy) m1 0; have kgy_1 : w23.cell? ⟨gy, 1, none⟩ = some (.slice A6 (ln y) c7) := H.cell m1 1; have zgy_1 := H.frozen (g := gy) m1 1; have kgx_0 : w23.cell? ⟨gx, 0, none⟩ = some (.bool (ng x)) := H.cell m2 0; have zgx_0 := H.frozen (g := gx) m2 0; have kgx_1 : w23.cell? ⟨gx, 1, none⟩ = some (.slice A4 (ln x) c5) := H.cell m2 1; have zgx_1 := H.frozen (g := gx) m2 1)
    | (clear st30; go_at_call 32; (with_reducible refine (DivQ (H.row _ m2) (H.row _ m0) (lim bx.out (by decide)) (lim bgv.out (by decide)) hg0.out p r hp.out hr'.out).mono ?_); rintro e w25 ⟨A26, c27, A28, c29, rfl, hr, hr2, hb⟩; replace H := (H.got hr hb).more ((H.got hr2 hb).row _ m0); clear hr hr2 hb; clear kgg_0 zgg_0 kgg_1 zgg_1 kgy_0 zgy_0 kgy_1 zgy_1 kgx_0 zgx_0 kgx_1 zgx_1; have kgg_0 : w25.cell? ⟨gg, 0, none⟩ = some (.bool (ng gv)) := H.cell m0 0; have zgg_0 := H.frozen (g := gg) m0 0; have kgg_1 : w25.cell? ⟨gg, 1, none⟩ = some (.slice A15 (ln gv) c16) := H.cell m0 1; have zgg_1 := H.frozen (g := gg) m0 1; have kgy_0 : w25.cell? ⟨gy, 0, none⟩ = some (.bool (ng y)) := H.cell m1 0; have zgy_0 := H.frozen (g := gy) m1 0; have kgy_1 : w25.cell? ⟨gy, 1, none⟩ = some (.slice A6 (ln y) c7) := H.cell m1 1; have zgy_1 := H.frozen (g := gy) m1 1; have kgx_0 : w25.cell? ⟨gx, 0, none⟩ = some (.bool (ng x)) := H.cell m2 0; have zgx_0 := H.frozen (g := gx) m2 0; have kgx_1 : w25.cell? ⟨gx, 1, none⟩ = some (.slice A4 (ln x) c5) := H.cell m2 1; have zgx_1 := H.frozen (g := gx) m2 1)
    | (clear st32; (with_reducible refine gate_dst (N := 9) rfl ?_); refine box_event ?hg (N := 9) ?hd (cs := #[.bool false, .slice none 0 0]) (t := 25) ?hr ?_; (case hd => rfl); (case hg => rfl); (case hr => go_simp; try rfl); intro gp hg w31 hbox hb; replace H := H.newbox hg hbox hb; clear hg hbox hb; clear kgg_0 zgg_0 kgg_1 zgg_1 kgy_0 zgy_0 kgy_1 zgy_1 kgx_0 zgx_0 kgx_1 zgx_1; have kgp_0 : w31.cell? ⟨gp, 0, none⟩ = some (.bool false) := H.cell m0 0; have zgp_0 := H.frozen (g := gp) m0 0; have kgp_1 : w31.cell? ⟨gp, 1, none⟩ = some (.slice none 0 0) := H.cell m0 1; have zgp_1 := H.frozen (g := gp) m0 1; have kgg_0 : w31.cell? ⟨gg, 0, none⟩ = some (.bool (ng gv)) := H.cell m1 0; have zgg_0 := H.frozen (g := gg) m1 0; have kgg_1 : w31.cell? ⟨gg, 1, none⟩ = some (.slice A15 (ln gv) c16) := H.cell m1 1; have zgg_1 := H.frozen (g := gg) m1 1; have kgy_0 : w31.cell? ⟨gy, 0, none⟩ = some (.bool (ng y)) := H.cell m2 0; have zgy_0 := H.frozen (g := gy) m2 0; have kgy_1 : w31.cell? ⟨gy, 1, none⟩ = some (.slice A6 (ln y) c7) := H.cell m2 1; have zgy_1 := H.frozen (g := gy) m2 1; have kgx_0 : w31.cell? ⟨gx, 0, none⟩ = some (.bool (ng x)) := H.cell m3 0; have zgx_0 := H.frozen (g := gx) m3 0; have kgx_1 : w31.cell? ⟨gx, 1, none⟩ = some (.slice A4 (ln x) c5) := H.cell m3 1; have zgx_1 := H.frozen (g := gx) m3 1; have ne_gp_gg := H.ne (g := gp) (g' := gg) 0 1 rfl rfl (by decide); have ne_gg_gp := ne_gp_gg.symm; have ne_gp_gy := H.ne (g := gp) (g' := gy) 0 2 rfl rfl (by decide); have ne_gy_gp := ne_gp_gy.symm; have ne_gp_gx := H.ne (g := gp) (g' := gx) 0 3 rfl rfl (by decide); have ne_gx_gp := ne_gp_gx.symm)
    | (clear st34; (with_reducible refine gate_dst (N := 10) rfl ?_); refine box_event ?hg (N := 10) ?hd (cs := #[.bool false, .slice none 0 0]) (t := 25) ?hr ?_; (case hd => rfl); (case hg => rfl); (case hr => go_simp; try rfl); intro gr hg w33 hbox hb; replace H := H.newbox hg hbox hb; clear hg hbox hb; clear kgp_0 zgp_0 kgp_1 zgp_1 kgg_0 zgg_0 kgg_1 zgg_1 kgy_0 zgy_0 kgy_1 zgy_1 kgx_0 zgx_0 kgx_1 zgx_1; have kgr_0 : w33.cell? ⟨gr, 0, none⟩ = some (.bool false) := H.cell m0 0; have zgr_0 := H.frozen (g := gr) m0 0; have kgr_1 : w33.cell? ⟨gr, 1, none⟩ = some (.slice none 0 0) := H.cell m0 1; have zgr_1 := H.frozen (g := gr) m0 1; have kgp_0 : w33.cell? ⟨gp, 0, none⟩ = some (.bool false) := H.cell m1 0; have zgp_0 := H.frozen (g := gp) m1 0; have kgp_1 : w33.cell? ⟨gp, 1, none⟩ = some (.slice none 0 0) := H.cell m1 1; have zgp_1 := H.frozen (g := gp) m1 1; have kgg_0 : w33.cell? ⟨gg, 0, none⟩ = some (.bool (ng gv)) := H.cell m2 0; have zgg_0 := H.frozen (g := gg) m2 0; have kgg_1 : w33.cell? ⟨gg, 1, none⟩ = some (.slice A15 (ln gv) c16) := H.cell m2 1; have zgg_1 := H.frozen (g := gg) m2 1; have kgy_0 : w33.cell? ⟨gy, 0, none⟩ = some (.bool (ng y)) := H.cell m3 0; have zgy_0 := H.frozen (g := gy) m3 0; have kgy_1 : w33.cell? ⟨gy, 1, none⟩ = some (.slice A6 (ln y) c7) := H.cell m3 1; have zgy_1 := H.frozen (g := gy) m3 1; have kgx_0 : w33.cell? ⟨gx, 0, none⟩ = some (.bool (ng x)) := H.cell m4 0; have zgx_0 := H.frozen (g := gx) m4 0; have kgx_1 : w33.cell? ⟨gx, 1, none⟩ = some (.slice A4 (ln x) c5) := H.cell m4 1; have zgx_1 := H.frozen (g := gx) m4 1; have ne_gr_gp := H.ne (g := gr) (g' := gp) 0 1 rfl rfl (by decide); have ne_gp_gr := ne_gr_gp.symm; have ne_gr_gg := H.ne (g := gr) (g' := gg) 0 2 rfl rfl (by decide); have ne_gg_gr := ne_gr_gg.symm; have ne_gr_gy := H.ne (g := gr) (g' := gy) 0 3 rfl rfl (by decide); have ne_gy_gr := ne_gr_gy.symm; have ne_gr_gx := H.ne (g := gr) (g' := gx) 0 4 rfl rfl (by decide); have ne_gx_gr := ne_gr_gx.symm))
  (try simp only [Act.put, List.setIfInBounds_toArray, List.set_cons_zero, List.set_cons_succ])
  replace H := ((((H.setn [_] 0 (.bool (ng p)) rfl).setn [_] 1 (.slice A26 (ln p) c27) rfl).setn [] 0 (.bool (ng r)) rfl).setn [] 1 (.slice A28 (ln r) c29) rfl)
  clear kgr_0 zgr_0 kgr_1 zgr_1 kgp_0 zgp_0 kgp_1 zgp_1 kgg_0 zgg_0 kgg_1 zgg_1 kgy_0 zgy_0 kgy_1 zgy_1 kgx_0 zgx_0 kgx_1 zgx_1
  generalize ((((w33.setCell ⟨gp, 0, none⟩ (.bool (ng p))).setCell ⟨gp, 1, none⟩ (.slice A26 (ln p) c27)).setCell ⟨gr, 0, none⟩ (.bool (ng r))).setCell ⟨gr, 1, none⟩ (.slice A28 (ln r) c29)) = w35 at H ⊢
  have kgr_0 : w35.cell? ⟨gr, 0, none⟩ = some (.bool (ng r)) := H.cell m0 0
  have zgr_0 := H.frozen (g := gr) m0 0
  have kgr_1 : w35.cell? ⟨gr, 1, none⟩ = some (.slice A28 (ln r) c29) := H.cell m0 1
  have zgr_1 := H.frozen (g := gr) m0 1
  have kgp_0 : w35.cell? ⟨gp, 0, none⟩ = some (.bool (ng p)) := H.cell m1 0
  have zgp_0 := H.frozen (g := gp) m1 0
  have kgp_1 : w35.cell? ⟨gp, 1, none⟩ = some (.slice A26 (ln p) c27) := H.cell m1 1
  have zgp_1 := H.frozen (g := gp) m1 1
  have kgg_0 : w35.cell? ⟨gg, 0, none⟩ = some (.bool (ng gv)) := H.cell m2 0
  have zgg_0 := H.frozen (g := gg) m2 0
  have kgg_1 : w35.cell? ⟨gg, 1, none⟩ = some (.slice A15 (ln gv) c16) := H.cell m2 1
  have zgg_1 := H.frozen (g := gg) m2 1
  have kgy_0 : w35.cell? ⟨gy, 0, none⟩ = some (.bool (ng y)) := H.cell m3 0
  have zgy_0 := H.frozen (g := gy) m3 0
  have kgy_1 : w35.cell? ⟨gy, 1, none⟩ = some (.slice A6 (ln y) c7) := H.cell m3 1
  have zgy_1 := H.frozen (g := gy) m3 1
  have kgx_0 : w35.cell? ⟨gx, 0, none⟩ = some (.bool (ng x)) := H.cell m4 0
  have zgx_0 := H.frozen (g := gx) m4 0
  have kgx_1 : w35.cell? ⟨gx, 1, none⟩ = some (.slice A4 (ln x) c5) := H.cell m4 1
  have zgx_1 := H.frozen (g := gx) m4 1
  have st41 := trivial
  have st43 := trivial
  have st45 := trivial
  go_upto_region 11 with (first
    | (clear st41; go_at_call 32; (with_reducible refine (DivQ (H.row _ m3) (H.row _ m2) (lim bY.out (by decide)) (lim bgv.out (by decide)) hg0.out q t hq.out ht.out).mono ?_); rintro e w36 ⟨A37, c38, A39, c40, rfl, hr, hr2, hb⟩; replace H := (H.got hr hb).more ((H.got hr2 hb).row _ m0); clear hr hr2 hb; clear kgr_0 zgr_0 kgr_1 zgr_1 kgp_0 zgp_0 kgp_1 zgp_1 kgg_0 zgg_0 kgg_1 zgg_1 kgy_0 zgy_0 kgy_1 zgy_1 kgx_0 zgx_0 kgx_1 zgx_1; have kgr_0 : w36.cell? ⟨gr, 0, none⟩ = some (.bool (ng r)) := H.cell m0 0; have zgr_0 := H.frozen (g := gr) m0 0; have kgr_1 : w36.cell? ⟨gr, 1, none⟩ = some (.slice A28 (ln r) c29) := H.cell m0 1; have zgr_1 := H.frozen (g := gr) m0 1; have kgp_0 : w36.cell? ⟨gp, 0, none⟩ = some (.bool (ng p)) := H.cell m1 0; have zgp_0 := H.frozen (g := gp) m1 0; have kgp_1 : w36.cell? ⟨gp, 1, none⟩ = some (.slice A26 (ln p) c27) := H.cell m1 1; have zgp_1 := H.frozen (g := gp) m1 1; have kgg_0 : w36.cell? ⟨gg, 0, none⟩ = some (.bool (ng gv)) := H.cell m2 0; have zgg_0 := H.frozen (g := gg) m2 0; have kgg_1 : w36.cell? ⟨gg, 1, none⟩ = some (.slice A15 (ln gv) c16) := H.cell m2 1; have zgg_1 := H.frozen (g := gg) m2 1; have kgy_0 : w36.cell? ⟨gy, 0, none⟩ = some (.bool (ng y)) := H.cell m3 0; have zgy_0 := H.frozen (g := gy) m3 0; have kgy_1 : w36.cell? ⟨gy, 1, none⟩ = some (.slice A6 (ln y) c7) := H.cell m3 1; have zgy_1 := H.frozen (g := gy) m3 1; have kgx_0 : w36.cell? ⟨gx, 0, none⟩ = some (.bool (ng x)) := H.cell m4 0; have zgx_0 := H.frozen (g := gx) m4 0; have kgx_1 : w36.cell? ⟨gx, 1, none⟩ = some (.slice A4 (ln x) c5) := H.cell m4 1; have zgx_1 := H.frozen (g := gx) m4 1)
    | (clear st43; (with_reducible refine gate_dst (N := 12) rfl ?_); refine box_event ?hg (N := 12) ?hd (cs := #[.bool false, .slice none 0 0]) (t := 25) ?hr ?_; (case hd => rfl); (case hg => rfl); (case hr => go_simp; try rfl); intro gq hg w42 hbox hb; replace H := H.newbox hg hbox hb; clear hg hbox hb; clear kgr_0 zgr_0 kgr_1 zgr_1 kgp_0 zgp_0 kgp_1 zgp_1 kgg_0 zgg_0 kgg_1 zgg_1 kgy_0 zgy_0 kgy_1 zgy_1 kgx_0 zgx_0 kgx_1 zgx_1; have kgq_0 : w42.cell? ⟨gq, 0, none⟩ = some (.bool false) := H.cell m0 0; have zgq_0 := H.frozen (g := gq) m0 0; have kgq_1 : w42.cell? ⟨gq, 1, none⟩ = some (.slice none 0 0) := H.cell m0 1; have zgq_1 := H.frozen (g := gq) m0 1; have kgr_0 : w42.cell? ⟨gr, 0, none⟩ = some (.bool (ng r)) := H.cell m1 0; have zgr_0 := H.frozen (g := gr) m1 0; have kgr_1 : w42.cell? ⟨gr, 1, none⟩ = some (.slice A28 (ln r) c29) := H.cell m1 1; have zgr_1 := H.frozen (g := gr) m1 1; have kgp_0 : w42.cell? ⟨gp, 0, none⟩ = some (.bool (ng p)) := H.cell m2 0; have zgp_0 := H.frozen (g := gp) m2 0; have kgp_1 : w42.cell? ⟨gp, 1, none⟩ = some (.slice A26 (ln p) c27) := H.cell m2 1; have zgp_1 := H.frozen (g := gp) m2 1; have kgg_0 : w42.cell? ⟨gg, 0, none⟩ = some (.bool (ng gv)) := H.cell m3 0; have zgg_0 := H.frozen (g := gg) m3 0; have kgg_1 : w42.cell? ⟨gg, 1, none⟩ = some (.slice A15 (ln gv) c16) := H.cell m3 1; have zgg_1 := H.frozen (g := gg) m3 1; have kgy_0 : w42.cell? ⟨gy, 0, none⟩ = some (.bool (ng y)) := H.cell m4 0; have zgy_0 := H.frozen (g := gy) m4 0; have kgy_1 : w42.cell? ⟨gy, 1, none⟩ = some (.slice A6 (ln y) c7) := H.cell m4 1; have zgy_1 := H.frozen (g := gy) m4 1; have kgx_0 : w42.cell? ⟨gx, 0, none⟩ = some (.bool (ng x)) := H.cell m5 0; have zgx_0 := H.frozen (g := gx) m5 0; have kgx_1 : w42.cell? ⟨gx, 1, none⟩ = some (.slice A4 (ln x) c5) := H.cell m5 1; have zgx_1 := H.frozen (g := gx) m5 1; have ne_gq_gr := H.ne (g := gq) (g' := gr) 0 1 rfl rfl (by decide); have ne_gr_gq := ne_gq_gr.symm; have ne_gq_gp := H.ne (g := gq) (g' := gp) 0 2 rfl rfl (by decide); have ne_gp_gq := ne_gq_gp.symm; have ne_gq_gg := H.ne (g := gq) (g' := gg) 0 3 rfl rfl (by decide); have ne_gg_gq := ne_gq_gg.symm; have ne_gq_gy := H.ne (g := gq) (g' := gy) 0 4 rfl rfl (by decide); have ne_gy_gq := ne_gq_gy.symm; have ne_gq_gx := H.ne (g := gq) (g' := gx) 0 5 rfl rfl (by decide); have ne_gx_gq := ne_gq_gx.symm)
    | (clear st45; (with_reducible refine gate_dst (N := 13) rfl ?_); refine box_event ?hg (N := 13) ?hd (cs := #[.bool false, .slice none 0 0]) (t := 25) ?hr ?_; (case hd => rfl); (case hg => rfl); (case hr => go_simp; try rfl); intro gt hg w44 hbox hb; replace H := H.newbox hg hbox hb; clear hg hbox hb; clear kgq_0 zgq_0 kgq_1 zgq_1 kgr_0 zgr_0 kgr_1 zgr_1 kgp_0 zgp_0 kgp_1 zgp_1 kgg_0 zgg_0 kgg_1 zgg_1 kgy_0 zgy_0 kgy_1 zgy_1 kgx_0 zgx_0 kgx_1 zgx_1; have kgt_0 : w44.cell? ⟨gt, 0, none⟩ = some (.bool false) := H.cell m0 0; have zgt_0 := H.frozen (g := gt) m0 0; have kgt_1 : w44.cell? ⟨gt, 1, none⟩ = some (.slice none 0 0) := H.cell m0 1; have zgt_1 := H.frozen (g := gt) m0 1; have kgq_0 : w44.cell? ⟨gq, 0, none⟩ = some (.bool false) := H.cell m1 0; have zgq_0 := H.frozen (g := gq) m1 0; have kgq_1 : w44.cell? ⟨gq, 1, none⟩ = some (.slice none 0 0) := H.cell m1 1; have zgq_1 := H.frozen (g := gq) m1 1; have kgr_0 : w44.cell? ⟨gr, 0, none⟩ = some (.bool (ng r)) := H.cell m2 0; have zgr_0 := H.frozen (g := gr) m2 0; have kgr_1 : w44.cell? ⟨gr, 1, none⟩ = some (.slice A28 (ln r) c29) := H.cell m2 1; have zgr_1 := H.frozen (g := gr) m2 1; have kgp_0 : w44.cell? ⟨gp, 0, none⟩ = some (.bool (ng p)) := H.cell m3 0; have zgp_0 := H.frozen (g := gp) m3 0; have kgp_1 : w44.cell? ⟨gp, 1, none⟩ = some (.slice A26 (ln p) c27) := H.cell m3 1; have zgp_1 := H.frozen (g := gp) m3 1; have kgg_0 : w44.cell? ⟨gg, 0, none⟩ = some (.bool (ng gv)) := H.cell m4 0; have zgg_0 := H.frozen (g := gg) m4 0; have kgg_1 : w44.cell? ⟨gg, 1, none⟩ = some (.slice A15 (ln gv) c16) := H.cell m4 1; have zgg_1 := H.frozen (g := gg) m4 1; have kgy_0 : w44.cell? ⟨gy, 0, none⟩ = some (.bool (ng y)) := H.cell m5 0; have zgy_0 := H.frozen (g := gy) m5 0; have kgy_1 : w44.cell? ⟨gy, 1, none⟩ = some (.slice A6 (ln y) c7) := H.cell m5 1; have zgy_1 := H.frozen (g := gy) m5 1; have kgx_0 : w44.cell? ⟨gx, 0, none⟩ = some (.bool (ng x)) := H.cell m6 0; have zgx_0 := H.frozen (g := gx) m6 0; have kgx_1 : w44.cell? ⟨gx, 1, none⟩ = some (.slice A4 (ln x) c5) := H.cell m6 1; have zgx_1 := H.frozen (g := gx) m6 1; have ne_gt_gq := H.ne (g := gt) (g' := gq) 0 1 rfl rfl (by decide); have ne_gq_gt := ne_gt_gq.symm; have ne_gt_gr := H.ne (g := gt) (g' := gr) 0 2 rfl rfl (by decide); have ne_gr_gt := ne_gt_gr.symm; have ne_gt_gp := H.ne (g := gt) (g' := gp) 0 3 rfl rfl (by decide); have ne_gp_gt := ne_gt_gp.symm; have ne_gt_gg := H.ne (g := gt) (g' := gg) 0 4 rfl rfl (by decide); have ne_gg_gt := ne_gt_gg.symm; have ne_gt_gy := H.ne (g := gt) (g' := gy) 0 5 rfl rfl (by decide); have ne_gy_gt := ne_gt_gy.symm; have ne_gt_gx := H.ne (g := gt) (g' := gx) 0 6 rfl rfl (by decide); have ne_gx_gt := ne_gt_gx.symm))
  (try simp only [Act.put, List.setIfInBounds_toArray, List.set_cons_zero, List.set_cons_succ])
  replace H := ((((H.setn [_] 0 (.bool (ng q)) rfl).setn [_] 1 (.slice A37 (ln q) c38) rfl).setn [] 0 (.bool (ng t)) rfl).setn [] 1 (.slice A39 (ln t) c40) rfl)
  clear kgt_0 zgt_0 kgt_1 zgt_1 kgq_0 zgq_0 kgq_1 zgq_1 kgr_0 zgr_0 kgr_1 zgr_1 kgp_0 zgp_0 kgp_1 zgp_1 kgg_0 zgg_0 kgg_1 zgg_1 kgy_0 zgy_0 kgy_1 zgy_1 kgx_0 zgx_0 kgx_1 zgx_1
  generalize ((((w44.setCell ⟨gq, 0, none⟩ (.bool (ng q))).setCell ⟨gq, 1, none⟩ (.slice A37 (ln q) c38)).setCell ⟨gt, 0, none⟩ (.bool (ng t))).setCell ⟨gt, 1, none⟩ (.slice A39 (ln t) c40)) = w46 at H ⊢
  have kgt_0 : w46.cell? ⟨gt, 0, none⟩ = some (.bool (ng t)) := H.cell m0 0
  have zgt_0 := H.frozen (g := gt) m0 0
  have kgt_1 : w46.cell? ⟨gt, 1, none⟩ = some (.slice A39 (ln t) c40) := H.cell m0 1
  have zgt_1 := H.frozen (g := gt) m0 1
  have kgq_0 : w46.cell? ⟨gq, 0, none⟩ = some (.bool (ng q)) := H.cell m1 0
  have zgq_0 := H.frozen (g := gq) m1 0
  have kgq_1 : w46.cell? ⟨gq, 1, none⟩ = some (.slice A37 (ln q) c38) := H.cell m1 1
  have zgq_1 := H.frozen (g := gq) m1 1
  have kgr_0 : w46.cell? ⟨gr, 0, none⟩ = some (.bool (ng r)) := H.cell m2 0
  have zgr_0 := H.frozen (g := gr) m2 0
  have kgr_1 : w46.cell? ⟨gr, 1, none⟩ = some (.slice A28 (ln r) c29) := H.cell m2 1
  have zgr_1 := H.frozen (g := gr) m2 1
  have kgp_0 : w46.cell? ⟨gp, 0, none⟩ = some (.bool (ng p)) := H.cell m3 0
  have zgp_0 := H.frozen (g := gp) m3 0
  have kgp_1 : w46.cell? ⟨gp, 1, none⟩ = some (.slice A26 (ln p) c27) := H.cell m3 1
  have zgp_1 := H.frozen (g := gp) m3 1
  have kgg_0 : w46.cell? ⟨gg, 0, none⟩ = some (.bool (ng gv)) := H.cell m4 0
  have zgg_0 := H.frozen (g := gg) m4 0
  have kgg_1 : w46.cell? ⟨gg, 1, none⟩ = some (.slice A15 (ln gv) c16) := H.cell m4 1
  have zgg_1 := H.frozen (g := gg) m4 1
  have kgy_0 : w46.cell? ⟨gy, 0, none⟩ = some (.bool (ng y)) := H.cell m5 0
  have zgy_0 := H.frozen (g := gy) m5 0
  have kgy_1 : w46.cell? ⟨gy, 1, none⟩ = some (.slice A6 (ln y) c7) := H.cell m5 1
  have zgy_1 := H.frozen (g := gy) m5 1
  have kgx_0 : w46.cell? ⟨gx, 0, none⟩ = some (.bool (ng x)) := H.cell m6 0
  have zgx_0 := H.frozen (g := gx) m6 0
  have kgx_1 : w46.cell? ⟨gx, 1, none⟩ = some (.slice A4 (ln x) c5) := H.cell m6 1
  have zgx_1 := H.frozen (g := gx) m6 1
  clear kgt_0 zgt_0 kgt_1 zgt_1 kgq_0 zgq_0 kgq_1 zgq_1 kgr_0 zgr_0 kgr_1 zgr_1 kgp_0 zgp_0 kgp_1 zgp_1 kgg_0 zgg_0 kgg_1 zgg_1 kgy_0 zgy_0 kgy_1 zgy_1 kgx_0 zgx_0 kgx_1 zgx_1
  replace H := H.drew
  refine start_ (n := 38) (S := fun w' => w'.cell? ⟨gg, 0, none⟩ = some (.bool (ng gv)) ∧ w'.cell? ⟨gg, 1, none⟩ = some (.slice A15 (ln gv) c16) ∧ w'.cell? ⟨gr, 0, none⟩ = some (.bool (ng r)) ∧ w'.cell? ⟨gr, 1, none⟩ = some (.slice A28 (ln r) c29) ∧ w'.cell? ⟨gt, 0, none⟩ = some (.bool (ng t)) ∧ w'.cell? ⟨gt, 1, none⟩ = some (.slice A39 (ln t) c40) ∧ w'.cell? ⟨gp, 0, none⟩ = some (.bool (ng p)) ∧ w'.cell? ⟨gp, 1, none⟩ = some (.slice A26 (ln p) c27) ∧ w'.cell? ⟨gq, 0, none⟩ = some (.bool (ng q)) ∧ w'.cell? ⟨gq, 1, none⟩ = some (.slice A37 (ln q) c38) ∧ w'.cell? ⟨gy, 0, none⟩ = some (.bool (ng y)) ∧ w'.cell? ⟨gy, 1, none⟩ = some (.slice A6 (ln y) c7) ∧ w'.cell? ⟨gx, 0, none⟩ = some (.bool (ng x)) ∧ w'.cell? ⟨gx, 1, none⟩ = some (.slice A4 (ln x) c5)) (ds := []) #[false, false, false, false, false, false, false, false, false, false, false, false, false, false, false, false, false, false, false, false, false, false, false, false, false, false, false, false, false, false, false, false, false, false, false, false, false, false] (by kernel_rfl) rfl rfl ⟨H.cell m4 0, H.cell m4 1, H.cell m2 0, H.cell m2 1, H.cell m0 0, H.cell m0 1, H.cell m3 0, H.cell m3 1, H.cell m1 0, H.cell m1 1, H.cell m5 0, H.cell m5 1, H.cell m6 0, H.cell m6 1⟩ (fun hQ => ?_)
  generalize w46.drew = w47 at H hQ ⊢
  refine with_tabW tb13.tab11 tb13.bits11 (fun HT_ HW_ => ?_)
  refine take_ (i := 0) (N := some 59) (v := ?_) (a' := ?_) (bm 38 1) rfl rfl (take_ofW HT_.out HW_.out (by kernel_rfl)) (fun _ _ _ h => h) (Or.inl ⟨by rfl, ?_⟩) hQ ?_ ?_
  rotate_left
  · rintro w' ⟨s0, s1, s2, s3, s4, s5, s6, s7, s8, s9, s10, s11, s12, s13⟩
    go_simp
    with_reducible rfl
  rotate_left
  · simp only [Act.put, List.setIfInBounds_toArray, List.set_cons_zero, List.set_cons_succ, i64_w, i32_w]
    rfl
  refine one_ (i := 1) (N := some 60) (bm 38 3) rfl rfl (one_of HT_.out (by kernel_rfl)) (by decide) (fun K hK => ?_)
  refine goes_ Try.func25 (by kernel_rfl) rfl #[.agg #[.bool (ng gv), .slice A15 (ln gv) c16]] (by rfl) rfl rfl (by simp only [List.map_toArray, List.map_cons, List.map_nil]; try rfl) ?_
  with_reducible refine (SignQ _ _ _ (lim bgv.out (by decide)) 1 hsg.out).mono ?_
  rintro e w48 ⟨rfl, hb⟩
  replace H := H.call hb
  clear hb
  refine ⟨_, rfl, ?_⟩
  refine hK.out _ _ ⟨H.cell m4 0, H.cell m4 1, H.cell m2 0, H.cell m2 1, H.cell m0 0, H.cell m0 1, H.cell m3 0, H.cell m3 1, H.cell m1 0, H.cell m1 1, H.cell m5 0, H.cell m5 1, H.cell m6 0, H.cell m6 1⟩ (fun hQ => ?_)
  clear hK K
  refine norm_ (a' := ?_) ?_ ?_
  rotate_left
  · show Act.put _ (some 60) _ = _
    simp only [Act.put, List.setIfInBounds_toArray, List.set_cons_zero, List.set_cons_succ, i64_w, i32_w]
    rfl
  refine pure_ (i := 2) (N := some 61) (v := ?_) (a' := ?_) (bm 38 7) rfl rfl (any_of HT_.out (by kernel_rfl)) (fun _ _ _ h => h) (Or.inl ⟨by rfl, ?_⟩) ?_ ?_
  rotate_left
  · intro w'
    go_simp
    with_reducible rfl
  rotate_left
  · simp only [Act.put, List.setIfInBounds_toArray, List.set_cons_zero, List.set_cons_succ, i64_w, i32_w]
    rfl
  refine pure_ (i := 3) (N := some 62) (v := ?_) (a' := ?_) (bm 38 15) rfl rfl (any_of HT_.out (by kernel_rfl)) (fun _ _ _ h => h) (Or.inl ⟨by rfl, ?_⟩) ?_ ?_
  rotate_left
  · intro w'
    go_simp
    with_reducible rfl
  rotate_left
  · simp only [Act.put, List.setIfInBounds_toArray, List.set_cons_zero, List.set_cons_succ, i64_w, i32_w]
    rfl
  refine pure_ (i := 4) (N := some 63) (v := ?_) (a' := ?_) (bm 38 31) rfl rfl (any_of HT_.out (by kernel_rfl)) (fun _ _ _ h => h) (Or.inl ⟨by rfl, ?_⟩) ?_ ?_
  rotate_left
  · intro w'
    go_simp
    with_reducible rfl
  rotate_left
  · simp only [Act.put, List.setIfInBounds_toArray, List.set_cons_zero, List.set_cons_succ, i64_w, i32_w]
    rfl
  refine pure_ (i := 5) (N := some 64) (v := ?_) (a' := ?_) (bm 38 63) rfl rfl (any_of HT_.out (by kernel_rfl)) (fun _ _ _ h => h) (Or.inl ⟨by rfl, ?_⟩) ?_ ?_
  rotate_left
  · intro w'
    go_simp
    with_reducible rfl
  rotate_left
  · simp only [Act.put, List.setIfInBounds_toArray, List.set_cons_zero, List.set_cons_succ, i64_w, i32_w]
    rfl
  refine pure_ (i := 6) (N := some 65) (v := ?_) (a' := ?_) (bm 38 127) rfl rfl (any_of HT_.out (by kernel_rfl)) (fun _ _ _ h => h) (Or.inl ⟨by rfl, ?_⟩) ?_ ?_
  rotate_left
  · intro w'
    go_simp
    with_reducible rfl
  rotate_left
  · simp only [Act.put, List.setIfInBounds_toArray, List.set_cons_zero, List.set_cons_succ, i64_w, i32_w]
    rfl
  refine pure_ (i := 7) (N := some 66) (v := ?_) (a' := ?_) (bm 38 255) rfl rfl (any_of HT_.out (by kernel_rfl)) (fun _ _ _ h => h) (Or.inl ⟨by rfl, ?_⟩) ?_ ?_
  rotate_left
  · intro w'
    go_simp
    with_reducible rfl
  rotate_left
  · simp only [Act.put, List.setIfInBounds_toArray, List.set_cons_zero, List.set_cons_succ, i64_w, i32_w]
    rfl
  refine pure_ (i := 8) (N := some 67) (v := ?_) (a' := ?_) (bm 38 511) rfl rfl (any_of HT_.out (by kernel_rfl)) (fun _ _ _ h => h) (Or.inl ⟨by rfl, ?_⟩) ?_ ?_
  rotate_left
  · intro w'
    go_simp
    with_reducible rfl
  rotate_left
  · simp only [Act.put, List.setIfInBounds_toArray, List.set_cons_zero, List.set_cons_succ, i64_w, i32_w]
    rfl
  refine pure_ (i := 9) (N := some 68) (v := ?_) (a' := ?_) (bm 38 1023) rfl rfl (any_of HT_.out (by kernel_rfl)) (fun _ _ _ h => h) (Or.inl ⟨by rfl, ?_⟩) ?_ ?_
  rotate_left
  · intro w'
    go_simp
    with_reducible rfl
  rotate_left
  · simp only [Act.put, List.setIfInBounds_toArray, List.set_cons_zero, List.set_cons_succ, i64_w, i32_w]
    rfl
  refine pure_ (i := 10) (N := some 69) (v := ?_) (a' := ?_) (bm 38 2047) rfl rfl (any_of HT_.out (by kernel_rfl)) (fun _ _ _ h => h) (Or.inl ⟨by rfl, ?_⟩) ?_ ?_
  rotate_left
  · intro w'
    go_simp
    with_reducible rfl
  rotate_left
  · simp only [Act.put, List.setIfInBounds_toArray, List.set_cons_zero, List.set_cons_succ, i64_w, i32_w]
    rfl
  refine pure_ (i := 11) (N := some 70) (v := ?_) (a' := ?_) (bm 38 4095) rfl rfl (any_of HT_.out (by kernel_rfl)) (fun _ _ _ h => h) (Or.inl ⟨by rfl, ?_⟩) ?_ ?_
  rotate_left
  · intro w'
    go_simp
    with_reducible rfl
  rotate_left
  · simp only [Act.put, List.setIfInBounds_toArray, List.set_cons_zero, List.set_cons_succ, i64_w, i32_w]
    rfl
  refine take_ (i := 12) (N := some 71) (v := ?_) (a' := ?_) (bm 38 8191) rfl rfl (take_ofW HT_.out HW_.out (by kernel_rfl)) (fun _ _ _ h => h) (Or.inl ⟨by rfl, ?_⟩) hQ ?_ ?_
  rotate_left
  · rintro w' ⟨s0, s1, s2, s3, s4, s5, s6, s7, s8, s9, s10, s11, s12, s13⟩
    go_simp
    with_reducible rfl
  rotate_left
  · simp only [Act.put, List.setIfInBounds_toArray, List.set_cons_zero, List.set_cons_succ, i64_w, i32_w]
    rfl
  refine one_ (i := 13) (N := some 72) (bm 38 16383) rfl rfl (one_of HT_.out (by kernel_rfl)) (by decide) (fun K hK => ?_)
  refine goes_ Try.func25 (by kernel_rfl) rfl #[.agg #[.bool (ng r), .slice A28 (ln r) c29]] (by rfl) rfl rfl (by simp only [List.map_toArray, List.map_cons, List.map_nil]; try rfl) ?_
  with_reducible refine (SignQ _ _ _ (lim br.out (by decide)) 0 hsr.out).mono ?_
  rintro e w49 ⟨rfl, hb⟩
  replace H := H.call hb
  clear hb
  refine ⟨_, rfl, ?_⟩
  refine hK.out _ _ ⟨H.cell m4 0, H.cell m4 1, H.cell m2 0, H.cell m2 1, H.cell m0 0, H.cell m0 1, H.cell m3 0, H.cell m3 1, H.cell m1 0, H.cell m1 1, H.cell m5 0, H.cell m5 1, H.cell m6 0, H.cell m6 1⟩ (fun hQ => ?_)
  clear hK K
  refine norm_ (a' := ?_) ?_ ?_
  rotate_left
  · show Act.put _ (some 72) _ = _
    simp only [Act.put, List.setIfInBounds_toArray, List.set_cons_zero, List.set_cons_succ, i64_w, i32_w]
    rfl
  refine pure_ (i := 14) (N := some 73) (v := ?_) (a' := ?_) (bm 38 32767) rfl rfl (any_of HT_.out (by kernel_rfl)) (fun _ _ _ h => h) (Or.inl ⟨by rfl, ?_⟩) ?_ ?_
  rotate_left
  · intro w'
    go_simp
    with_reducible rfl
  rotate_left
  · simp only [Act.put, List.setIfInBounds_toArray, List.set_cons_zero, List.set_cons_succ, i64_w, i32_w]
    rfl
  refine pure_ (i := 15) (N := some 74) (v := ?_) (a' := ?_) (bm 38 65535) rfl rfl (any_of HT_.out (by kernel_rfl)) (fun _ _ _ h => h) (Or.inl ⟨by rfl, ?_⟩) ?_ ?_
  rotate_left
  · intro w'
    go_simp
    with_reducible rfl
  rotate_left
  · simp only [Act.put, List.setIfInBounds_toArray, List.set_cons_zero, List.set_cons_succ, i64_w, i32_w]
    rfl
  refine pure_ (i := 16) (N := some 75) (v := ?_) (a' := ?_) (bm 38 131071) rfl rfl (any_of HT_.out (by kernel_rfl)) (fun _ _ _ h => h) (Or.inl ⟨by rfl, ?_⟩) ?_ ?_
  rotate_left
  · intro w'
    go_simp
    with_reducible rfl
  rotate_left
  · simp only [Act.put, List.setIfInBounds_toArray, List.set_cons_zero, List.set_cons_succ, i64_w, i32_w]
    rfl
  refine take_ (i := 17) (N := some 76) (v := ?_) (a' := ?_) (bm 38 262143) rfl rfl (take_ofW HT_.out HW_.out (by kernel_rfl)) (fun _ _ _ h => h) (Or.inl ⟨by rfl, ?_⟩) hQ ?_ ?_
  rotate_left
  · rintro w' ⟨s0, s1, s2, s3, s4, s5, s6, s7, s8, s9, s10, s11, s12, s13⟩
    go_simp
    with_reducible rfl
  rotate_left
  · simp only [Act.put, List.setIfInBounds_toArray, List.set_cons_zero, List.set_cons_succ, i64_w, i32_w]
    rfl
  refine one_ (i := 18) (N := some 77) (bm 38 524287) rfl rfl (one_of HT_.out (by kernel_rfl)) (by decide) (fun K hK => ?_)
  refine goes_ Try.func25 (by kernel_rfl) rfl #[.agg #[.bool (ng t), .slice A39 (ln t) c40]] (by rfl) rfl rfl (by simp only [List.map_toArray, List.map_cons, List.map_nil]; try rfl) ?_
  with_reducible refine (SignQ _ _ _ (lim bt.out (by decide)) 0 hst.out).mono ?_
  rintro e w50 ⟨rfl, hb⟩
  replace H := H.call hb
  clear hb
  refine ⟨_, rfl, ?_⟩
  refine hK.out _ _ ⟨H.cell m4 0, H.cell m4 1, H.cell m2 0, H.cell m2 1, H.cell m0 0, H.cell m0 1, H.cell m3 0, H.cell m3 1, H.cell m1 0, H.cell m1 1, H.cell m5 0, H.cell m5 1, H.cell m6 0, H.cell m6 1⟩ (fun hQ => ?_)
  clear hK K
  refine norm_ (a' := ?_) ?_ ?_
  rotate_left
  · show Act.put _ (some 77) _ = _
    simp only [Act.put, List.setIfInBounds_toArray, List.set_cons_zero, List.set_cons_succ, i64_w, i32_w]
    rfl
  refine pure_ (i := 19) (N := some 78) (v := ?_) (a' := ?_) (bm 38 1048575) rfl rfl (any_of HT_.out (by kernel_rfl)) (fun _ _ _ h => h) (Or.inl ⟨by rfl, ?_⟩) ?_ ?_
  rotate_left
  · intro w'
    go_simp
    with_reducible rfl
  rotate_left
  · simp only [Act.put, List.setIfInBounds_toArray, List.set_cons_zero, List.set_cons_succ, i64_w, i32_w]
    rfl
  refine pure_ (i := 20) (N := some 79) (v := ?_) (a' := ?_) (bm 38 2097151) rfl rfl (any_of HT_.out (by kernel_rfl)) (fun _ _ _ h => h) (Or.inl ⟨by rfl, ?_⟩) ?_ ?_
  rotate_left
  · intro w'
    go_simp
    with_reducible rfl
  rotate_left
  · simp only [Act.put, List.setIfInBounds_toArray, List.set_cons_zero, List.set_cons_succ, i64_w, i32_w]
    rfl
  refine pure_ (i := 21) (N := some 80) (v := ?_) (a' := ?_) (bm 38 4194303) rfl rfl (any_of HT_.out (by kernel_rfl)) (fun _ _ _ h => h) (Or.inl ⟨by rfl, ?_⟩) ?_ ?_
  rotate_left
  · intro w'
    go_simp
    with_reducible rfl
  rotate_left
  · simp only [Act.put, List.setIfInBounds_toArray, List.set_cons_zero, List.set_cons_succ, i64_w, i32_w]
    rfl
  refine take_ (i := 22) (N := some 81) (v := ?_) (a' := ?_) (bm 38 8388607) rfl rfl (take_ofW HT_.out HW_.out (by kernel_rfl)) (fun _ _ _ h => h) (Or.inl ⟨by rfl, ?_⟩) hQ ?_ ?_
  rotate_left
  · rintro w' ⟨s0, s1, s2, s3, s4, s5, s6, s7, s8, s9, s10, s11, s12, s13⟩
    go_simp
    with_reducible rfl
  rotate_left
  · simp only [Act.put, List.setIfInBounds_toArray, List.set_cons_zero, List.set_cons_succ, i64_w, i32_w]
    rfl
  refine take_ (i := 23) (N := some 82) (v := ?_) (a' := ?_) (bm 38 16777215) rfl rfl (take_ofW HT_.out HW_.out (by kernel_rfl)) (fun _ _ _ h => h) (Or.inl ⟨by rfl, ?_⟩) hQ ?_ ?_
  rotate_left
  · rintro w' ⟨s0, s1, s2, s3, s4, s5, s6, s7, s8, s9, s10, s11, s12, s13⟩
    go_simp
    with_reducible rfl
  rotate_left
  · simp only [Act.put, List.setIfInBounds_toArray, List.set_cons_zero, List.set_cons_succ, i64_w, i32_w]
    rfl
  refine one_ (i := 24) (N := some 83) (bm 38 33554431) rfl rfl (one_of HT_.out (by kernel_rfl)) (by decide) (fun K hK => ?_)
  refine goes_ Try.func61 (by kernel_rfl) rfl #[.agg #[.bool (ng p), .slice A26 (ln p) c27], .agg #[.bool (ng q), .slice A37 (ln q) c38]] (by rfl) rfl rfl (by simp only [List.map_toArray, List.map_cons, List.map_nil]; try rfl) ?_
  with_reducible refine (GcdQ (H.row _ m3) (H.row _ m1) (lim bp.out (by decide)) (lim bq.out (by decide)) e he.out).mono ?_
  rintro e w51 ⟨A52, c53, rfl, hr, hb⟩
  replace H := H.got hr hb
  clear hr hb
  refine ⟨_, rfl, ?_⟩
  refine hK.out _ _ ⟨H.cell m4 0, H.cell m4 1, H.cell m2 0, H.cell m2 1, H.cell m0 0, H.cell m0 1, H.cell m3 0, H.cell m3 1, H.cell m1 0, H.cell m1 1, H.cell m5 0, H.cell m5 1, H.cell m6 0, H.cell m6 1⟩ (fun hQ => ?_)
  clear hK K
  refine norm_ (a' := ?_) ?_ ?_
  rotate_left
  · show Act.put _ (some 83) _ = _
    simp only [Act.put, List.setIfInBounds_toArray, List.set_cons_zero, List.set_cons_succ, i64_w, i32_w]
    rfl
  refine one_ (i := 25) (N := some 84) (bm 38 67108863) rfl rfl (one_of HT_.out (by kernel_rfl)) (by decide) (fun K hK => ?_)
  refine goes_ Try.func27 (by kernel_rfl) rfl #[.int .i64 1] (by rfl) rfl rfl (by simp only [List.map_toArray, List.map_cons, List.map_nil]; try rfl) ?_
  with_reducible refine (OfQ _ 1 i hi.out (by decide) (by decide)).mono ?_
  rintro e w54 ⟨A55, c56, rfl, hr, hb⟩
  replace H := H.got (fresh_row hr) hb
  clear hr hb
  refine ⟨_, rfl, ?_⟩
  refine hK.out _ _ ⟨H.cell m4 0, H.cell m4 1, H.cell m2 0, H.cell m2 1, H.cell m0 0, H.cell m0 1, H.cell m3 0, H.cell m3 1, H.cell m1 0, H.cell m1 1, H.cell m5 0, H.cell m5 1, H.cell m6 0, H.cell m6 1⟩ (fun hQ => ?_)
  clear hK K
  refine norm_ (a' := ?_) ?_ ?_
  rotate_left
  · show Act.put _ (some 84) _ = _
    simp only [Act.put, List.setIfInBounds_toArray, List.set_cons_zero, List.set_cons_succ, i64_w, i32_w]
    rfl
  refine one_ (i := 26) (N := some 85) (bm 38 134217727) rfl rfl (one_of HT_.out (by kernel_rfl)) (by decide) (fun K hK => ?_)
  refine goes_ Try.func34 (by kernel_rfl) rfl #[.agg #[.bool (ng e), .slice A52 (ln e) c53], .agg #[.bool (ng i), .slice A55 (ln i) c56]] (by rfl) rfl rfl (by simp only [List.map_toArray, List.map_cons, List.map_nil]; try rfl) ?_
  with_reducible refine (CmpQ (H.row _ m1) (H.row _ m0) (lim be.out (by decide)) (lim bi.out (by decide)) 0 hk1.out).mono ?_
  rintro e w57 ⟨rfl, hb⟩
  replace H := H.call hb
  clear hb
  refine ⟨_, rfl, ?_⟩
  refine hK.out _ _ ⟨H.cell m4 0, H.cell m4 1, H.cell m2 0, H.cell m2 1, H.cell m0 0, H.cell m0 1, H.cell m3 0, H.cell m3 1, H.cell m1 0, H.cell m1 1, H.cell m5 0, H.cell m5 1, H.cell m6 0, H.cell m6 1⟩ (fun hQ => ?_)
  clear hK K
  refine norm_ (a' := ?_) ?_ ?_
  rotate_left
  · show Act.put _ (some 85) _ = _
    simp only [Act.put, List.setIfInBounds_toArray, List.set_cons_zero, List.set_cons_succ, i64_w, i32_w]
    rfl
  refine pure_ (i := 27) (N := some 86) (v := ?_) (a' := ?_) (bm 38 268435455) rfl rfl (any_of HT_.out (by kernel_rfl)) (fun _ _ _ h => h) (Or.inl ⟨by rfl, ?_⟩) ?_ ?_
  rotate_left
  · intro w'
    go_simp
    with_reducible rfl
  rotate_left
  · simp only [Act.put, List.setIfInBounds_toArray, List.set_cons_zero, List.set_cons_succ, i64_w, i32_w]
    rfl
  refine pure_ (i := 28) (N := some 87) (v := ?_) (a' := ?_) (bm 38 536870911) rfl rfl (any_of HT_.out (by kernel_rfl)) (fun _ _ _ h => h) (Or.inl ⟨by rfl, ?_⟩) ?_ ?_
  rotate_left
  · intro w'
    go_simp
    with_reducible rfl
  rotate_left
  · simp only [Act.put, List.setIfInBounds_toArray, List.set_cons_zero, List.set_cons_succ, i64_w, i32_w]
    rfl
  refine pure_ (i := 29) (N := some 88) (v := ?_) (a' := ?_) (bm 38 1073741823) rfl rfl (any_of HT_.out (by kernel_rfl)) (fun _ _ _ h => h) (Or.inl ⟨by rfl, ?_⟩) ?_ ?_
  rotate_left
  · intro w'
    go_simp
    with_reducible rfl
  rotate_left
  · simp only [Act.put, List.setIfInBounds_toArray, List.set_cons_zero, List.set_cons_succ, i64_w, i32_w]
    rfl
  refine take_ (i := 30) (N := some 89) (v := ?_) (a' := ?_) (bm 38 2147483647) rfl rfl (take_ofW HT_.out HW_.out (by kernel_rfl)) (fun _ _ _ h => h) (Or.inl ⟨by rfl, ?_⟩) hQ ?_ ?_
  rotate_left
  · rintro w' ⟨s0, s1, s2, s3, s4, s5, s6, s7, s8, s9, s10, s11, s12, s13⟩
    go_simp
    with_reducible rfl
  rotate_left
  · simp only [Act.put, List.setIfInBounds_toArray, List.set_cons_zero, List.set_cons_succ, i64_w, i32_w]
    rfl
  refine take_ (i := 31) (N := some 90) (v := ?_) (a' := ?_) (bm 38 4294967295) rfl rfl (take_ofW HT_.out HW_.out (by kernel_rfl)) (fun _ _ _ h => h) (Or.inl ⟨by rfl, ?_⟩) hQ ?_ ?_
  rotate_left
  · rintro w' ⟨s0, s1, s2, s3, s4, s5, s6, s7, s8, s9, s10, s11, s12, s13⟩
    go_simp
    with_reducible rfl
  rotate_left
  · simp only [Act.put, List.setIfInBounds_toArray, List.set_cons_zero, List.set_cons_succ, i64_w, i32_w]
    rfl
  refine take_ (i := 33) (N := some 92) (v := ?_) (a' := ?_) (bm 38 12884901887) rfl rfl (take_ofW HT_.out HW_.out (by kernel_rfl)) (fun _ _ _ h => h) (Or.inl ⟨by rfl, ?_⟩) hQ ?_ ?_
  rotate_left
  · rintro w' ⟨s0, s1, s2, s3, s4, s5, s6, s7, s8, s9, s10, s11, s12, s13⟩
    go_simp
    with_reducible rfl
  rotate_left
  · simp only [Act.put, List.setIfInBounds_toArray, List.set_cons_zero, List.set_cons_succ, i64_w, i32_w]
    rfl
  refine one_ (i := 32) (N := some 91) (bm 38 17179869183) rfl rfl (one_of HT_.out (by kernel_rfl)) (by decide) (fun K hK => ?_)
  refine goes_ Try.func61 (by kernel_rfl) rfl #[.agg #[.bool (ng y), .slice A6 (ln y) c7], .agg #[.bool (ng x), .slice A4 (ln x) c5]] (by rfl) rfl rfl (by simp only [List.map_toArray, List.map_cons, List.map_nil]; try rfl) ?_
  with_reducible refine (GcdQ (H.row _ m7) (H.row _ m8) (lim bY.out (by decide)) (lim bx.out (by decide)) gw hgw.out).mono ?_
  rintro e w58 ⟨A59, c60, rfl, hr, hb⟩
  replace H := H.got hr hb
  clear hr hb
  refine ⟨_, rfl, ?_⟩
  refine hK.out _ _ ⟨H.cell m4 0, H.cell m4 1, H.cell m2 0, H.cell m2 1, H.cell m0 0, H.cell m0 1, H.cell m3 0, H.cell m3 1, H.cell m1 0, H.cell m1 1, H.cell m5 0, H.cell m5 1, H.cell m6 0, H.cell m6 1⟩ (fun hQ => ?_)
  clear hK K
  refine norm_ (a' := ?_) ?_ ?_
  rotate_left
  · show Act.put _ (some 91) _ = _
    simp only [Act.put, List.setIfInBounds_toArray, List.set_cons_zero, List.set_cons_succ, i64_w, i32_w]
    rfl
  refine one_ (i := 34) (N := some 93) (bm 38 34359738367) rfl rfl (one_of HT_.out (by kernel_rfl)) (by decide) (fun K hK => ?_)
  refine goes_ Try.func34 (by kernel_rfl) rfl #[.agg #[.bool (ng gw), .slice A59 (ln gw) c60], .agg #[.bool (ng gv), .slice A15 (ln gv) c16]] (by rfl) rfl rfl (by simp only [List.map_toArray, List.map_cons, List.map_nil]; try rfl) ?_
  with_reducible refine (CmpQ (H.row _ m0) (H.row _ m7) (lim bgw.out (by decide)) (lim bgv.out (by decide)) 0 hk2.out).mono ?_
  rintro e w61 ⟨rfl, hb⟩
  replace H := H.call hb
  clear hb
  refine ⟨_, rfl, ?_⟩
  refine hK.out _ _ ⟨H.cell m4 0, H.cell m4 1, H.cell m2 0, H.cell m2 1, H.cell m0 0, H.cell m0 1, H.cell m3 0, H.cell m3 1, H.cell m1 0, H.cell m1 1, H.cell m5 0, H.cell m5 1, H.cell m6 0, H.cell m6 1⟩ (fun hQ => ?_)
  clear hK K
  refine norm_ (a' := ?_) ?_ ?_
  rotate_left
  · show Act.put _ (some 93) _ = _
    simp only [Act.put, List.setIfInBounds_toArray, List.set_cons_zero, List.set_cons_succ, i64_w, i32_w]
    rfl
  refine pure_ (i := 35) (N := some 94) (v := ?_) (a' := ?_) (bm 38 68719476735) rfl rfl (any_of HT_.out (by kernel_rfl)) (fun _ _ _ h => h) (Or.inl ⟨by rfl, ?_⟩) ?_ ?_
  rotate_left
  · intro w'
    go_simp
    with_reducible rfl
  rotate_left
  · simp only [Act.put, List.setIfInBounds_toArray, List.set_cons_zero, List.set_cons_succ, i64_w, i32_w]
    rfl
  refine pure_ (i := 36) (N := some 95) (v := ?_) (a' := ?_) (bm 38 137438953471) rfl rfl (any_of HT_.out (by kernel_rfl)) (fun _ _ _ h => h) (Or.inl ⟨by rfl, ?_⟩) ?_ ?_
  rotate_left
  · intro w'
    go_simp
    with_reducible rfl
  rotate_left
  · simp only [Act.put, List.setIfInBounds_toArray, List.set_cons_zero, List.set_cons_succ, i64_w, i32_w]
    rfl
  refine pure_ (i := 37) (N := some 4) (v := ?_) (a' := ?_) (bm 38 274877906943) rfl rfl (any_of HT_.out (by kernel_rfl)) (fun _ _ _ h => h) (Or.inl ⟨by rfl, ?_⟩) ?_ ?_
  rotate_left
  · intro w'
    go_simp
    with_reducible rfl
  rotate_left
  · simp only [Act.put, List.setIfInBounds_toArray, List.set_cons_zero, List.set_cons_succ, i64_w, i32_w]
    rfl
  refine done_ (done_of HT_.out (by kernel_rfl)) ?_
  try clear hQ
  go_wp2
  go_ret
  exact ⟨rfl, H.below⟩

theorem gcd_walk (a b : ByteArray) (w : World) : Calls Try.prog 13 #[.string a, .string b] w (fun e W' => e = .returned (.bool true) ∧ Below w.heap.size w W') := by
  by_cases h : ∃ x y, Both a b x y
  · obtain ⟨x, y, h⟩ := h
    obtain ⟨s1, s2⟩ := both_small h
    obtain ⟨gv, hgv⟩ : ∃ v : Int, ((Int.gcd x y : Nat) : Int) = v := ⟨_, rfl⟩
    by_cases h0 : x = 0
    · have bg : ln gv ≤ 10 := bAbs s2 (by rw [← hgv, h0]; simp)
      exact gcd_x a b w x y ⟨s1⟩ ⟨s2⟩ gv ⟨hgv⟩ ⟨bg⟩ ⟨h0⟩ ⟨sg_z' h0⟩ ⟨two_ok h⟩
    · have bg : ln gv ≤ 10 := bAbs s1 (gcd_le hgv h0)
      by_cases h1 : y = 0
      · exact gcd_y a b w x y ⟨s1⟩ ⟨s2⟩ gv ⟨hgv⟩ ⟨bg⟩ _ ⟨rfl⟩ ⟨sg_ne' h0⟩ ⟨h1⟩ ⟨sg_z' h1⟩ ⟨two_ok h⟩
      · have hp : 0 < Int.gcd x y := Nat.gcd_pos_of_pos_left _ (by omega)
        have hd1 : gv ∣ x := by rw [← hgv]; exact Int.gcd_dvd_left ..
        have hd2 : gv ∣ y := by rw [← hgv]; exact Int.gcd_dvd_right ..
        exact gcd_t a b w x y ⟨s1⟩ ⟨s2⟩ gv ⟨hgv⟩ ⟨bg⟩ _ _ _ _ _ _ ⟨by omega⟩ ⟨by unfold sg; rw [if_neg (by omega), if_neg (by omega)]⟩ ⟨h0⟩ ⟨rfl⟩ ⟨sg_ne' h0⟩ ⟨rfl⟩ ⟨sg_ne' h1⟩ ⟨rfl⟩ ⟨rfl⟩ ⟨rfl⟩ ⟨rfl⟩ ⟨sg_z' (Int.tmod_eq_zero_of_dvd hd1)⟩ ⟨sg_z' (Int.tmod_eq_zero_of_dvd hd2)⟩ ⟨two_ok h⟩
  · obtain ⟨x, y, h⟩ := two_not a b h
    exact gcd_f a b w x y ⟨h⟩

end Go.Proofs.Ytdkapdgbfejgdaa
