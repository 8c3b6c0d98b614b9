/- The walk of the law BigintSmall: over every two integers of 32 bits it returns true. -/
import Derived.Test.YtdkapdgbfejgdaaTw
namespace Go.Proofs.Ytdkapdgbfejgdaa
open Go.RowKit Go.Proofs.YtdkapdgbfejgdaaW.PrintWords Go.Proofs.YtdkapdgbfejgdaaW.PrintLast Go.Proofs.YtdkapdgbfejgdaaW.PrintMore
set_option linter.unusedSimpArgs false
set_option linter.unusedVariables false

theorem tdiv_range {m n : Int} {b : Int} (h0 : -b ≤ m) (h1 : m ≤ b) : -b ≤ m.tdiv n ∧ m.tdiv n ≤ b := by
  have h : (m.tdiv n).natAbs = m.natAbs / n.natAbs := Int.natAbs_tdiv m n
  have h2 : m.natAbs / n.natAbs ≤ m.natAbs := Nat.div_le_self _ _
  omega
theorem tmod_range {m n : Int} {b : Int} (h0 : -b ≤ m) (h1 : m ≤ b) : -b ≤ m.tmod n ∧ m.tmod n ≤ b := by
  have h : (m.tmod n).natAbs = m.natAbs % n.natAbs := Int.natAbs_tmod m n
  have h2 : m.natAbs % n.natAbs ≤ m.natAbs := Nat.mod_le _ _
  omega
theorem mul_range {m n : Int} (h0 : -1073741824 ≤ m) (h1 : m ≤ 1073741824) (h2 : -1073741824 ≤ n) (h3 : n ≤ 1073741824) : -1152921504606846976 ≤ m * n ∧ m * n ≤ 1152921504606846976 := by
  have h : (m * n).natAbs ≤ 1073741824 * 1073741824 := by
    rw [Int.natAbs_mul]
    exact Nat.mul_le_mul (by omega) (by omega)
  omega
theorem intOf_fit {s : Int} (h0 : -9223372036854775808 ≤ s) (h1 : s ≤ 9223372036854775807) : intOfI s = s := by unfold intOfI; rw [if_pos ⟨h0, h1⟩]
theorem fits_fit {s : Int} (h0 : -9223372036854775808 ≤ s) (h1 : s ≤ 9223372036854775807) : fitsI s = true := decide_eq_true ⟨h0, h1⟩

theorem half_range {a : Int} (h0 : -2147483648 ≤ a) (h1 : a ≤ 2147483647) : -1073741824 ≤ a.tdiv 2 ∧ a.tdiv 2 ≤ 1073741824 := by
  have h : (a.tdiv 2).natAbs = a.natAbs / 2 := Int.natAbs_tdiv a 2
  omega

set_option maxHeartbeats 8000000 in
set_option maxRecDepth 100000 in
theorem small_0 (a b : Int) (w : World) (a0 : -2147483648 ≤ a) (a1 : a ≤ 2147483647) (b0 : -2147483648 ≤ b) (b1 : b ≤ 2147483647) (hz : Aside0 (b.tdiv 2 = 0)) : Calls Try.prog 4 #[.int .i32 a, .int .i32 b] w (fun e W' => e = .returned (.bool true) ∧ Below w.heap.size w W') := by
  have hu25 := Try.underlying25
  have H := Sit.start w (fun _ => False)
  go_enter Try.func4, Try.ntmps4
  have st2 := trivial
  go_upto_region 4 with (first
    | (clear st2; go_at_call 22; (with_reducible refine (awake_ok _).mono ?_); rintro e wA ⟨rfl, hb⟩; replace H := H.call hb; clear hb))
  (try simp only [Act.put, List.setIfInBounds_toArray, List.set_cons_zero, List.set_cons_succ])
  have am := half_range (a := a) (by omega) (by omega)
  have bm' := half_range (a := b) (by omega) (by omega)
  generalize a.tdiv 2 = m at am ⊢
  have hz1 := hz.out
  clear hz
  generalize b.tdiv 2 = n at bm' hz1 ⊢
  obtain ⟨lm0, lm1⟩ := am
  obtain ⟨ln0, ln1⟩ := bm'
  have mr := mul_range lm0 lm1 ln0 ln1
  obtain ⟨p0, p1⟩ := mr
  obtain ⟨s, es⟩ : ∃ v : Int, m + n = v := ⟨_, rfl⟩
  obtain ⟨d, ed⟩ : ∃ v : Int, m - n = v := ⟨_, rfl⟩
  obtain ⟨p, ep⟩ : ∃ v : Int, m * n = v := ⟨_, rfl⟩
  have hs := Aside0.mk es
  have hd := Aside0.mk ed
  have hp := Aside0.mk ep
  have bm := Aside0.mk (show ln m ≤ 1 from ln_bound m 1 (by omega))
  have bn := Aside0.mk (show ln n ≤ 1 from ln_bound n 1 (by omega))
  have bs := Aside0.mk (bAdd bm.out bn.out es)
  have bd := Aside0.mk (bSub bm.out bn.out ed)
  have bp := Aside0.mk (bMul bm.out bn.out ep)
  have i1 := Aside0.mk (show intOfI s = m + n by rw [← es]; exact intOf_fit (by omega) (by omega))
  have f1 := Aside0.mk (show fitsI s = true from fits_fit (by omega) (by omega))
  have i2 := Aside0.mk (show intOfI d = m - n by rw [← ed]; exact intOf_fit (by omega) (by omega))
  have f2 := Aside0.mk (show fitsI d = true from fits_fit (by omega) (by omega))
  have i3 := Aside0.mk (show intOfI p = m * n by rw [← ep]; exact intOf_fit (by omega) (by omega))
  have f3 := Aside0.mk (show fitsI p = true from fits_fit (by omega) (by omega))
  have t1 : (m + n != m + n) = false := by simp
  have t2 : (m - n != m - n) = false := by simp
  have t3 : (m * n != m * n) = false := by simp
  have hz' := Aside0.mk hz1
  have t4 : (n == 0) = true := beq_iff_eq.mpr hz1
  clear hz1
  clear es ed ep a0 a1 b0 b1
  have st6 := trivial
  have st10 := trivial
  have st12 := trivial
  have st14 := trivial
  go_upto_region 5 with (first
    | (clear st6; go_at_call 27; (with_reducible refine (OfQ _ m m rfl (by omega) (by omega)).mono ?_); rintro e w3 ⟨A4, c5, rfl, hr, hb⟩; replace H := H.got (fresh_row hr) hb; clear hr hb)
    | (clear st10; go_at_call 27; (with_reducible refine (OfQ _ n n rfl (by omega) (by omega)).mono ?_); rintro e w7 ⟨A8, c9, rfl, hr, hb⟩; replace H := H.got (fresh_row hr) hb; clear hr hb)
    | (clear st12; (with_reducible refine gate_dst (N := 7) rfl ?_); refine box_event ?hg (N := 7) ?hd (cs := #[.bool false, .slice none 0 0]) (t := 25) ?hr ?_; (case hd => rfl); (case hg => rfl); (case hr => first | (go_simp; done) | (go_simp; rfl)); intro gx hg w11 hbox hb; replace H := H.newbox hg hbox hb; clear hg hbox hb; have kgx_0 : w11.cell? ⟨gx, 0, none⟩ = some (.bool false) := H.cell m0 0; have zgx_0 := H.frozen (g := gx) m0 0; have kgx_1 : w11.cell? ⟨gx, 1, none⟩ = some (.slice none 0 0) := H.cell m0 1; have zgx_1 := H.frozen (g := gx) m0 1)
    | (clear st14; (with_reducible refine gate_dst (N := 8) rfl ?_); refine box_event ?hg (N := 8) ?hd (cs := #[.bool false, .slice none 0 0]) (t := 25) ?hr ?_; (case hd => rfl); (case hg => rfl); (case hr => first | (go_simp; done) | (go_simp; rfl)); intro gy hg w13 hbox hb; replace H := H.newbox hg hbox hb; clear hg hbox hb; clear kgx_0 zgx_0 kgx_1 zgx_1; have kgy_0 : w13.cell? ⟨gy, 0, none⟩ = some (.bool false) := H.cell m0 0; have zgy_0 := H.frozen (g := gy) m0 0; have kgy_1 : w13.cell? ⟨gy, 1, none⟩ = some (.slice none 0 0) := H.cell m0 1; have zgy_1 := H.frozen (g := gy) m0 1; have kgx_0 : w13.cell? ⟨gx, 0, none⟩ = some (.bool false) := H.cell m1 0; have zgx_0 := H.frozen (g := gx) m1 0; have kgx_1 : w13.cell? ⟨gx, 1, none⟩ = some (.slice none 0 0) := H.cell m1 1; have zgx_1 := H.frozen (g := gx) m1 1; have ne_gy_gx := H.ne (g := gy) (g' := gx) 0 1 rfl rfl (by decide); have ne_gx_gy := ne_gy_gx.symm))
  (try simp only [Act.put, List.setIfInBounds_toArray, List.set_cons_zero, List.set_cons_succ])
  replace H := ((((H.setn [_] 0 (.bool (ng m)) rfl).setn [_] 1 (.slice A4 (ln m) c5) rfl).setn [] 0 (.bool (ng n)) rfl).setn [] 1 (.slice A8 (ln n) c9) rfl)
  clear kgy_0 zgy_0 kgy_1 zgy_1 kgx_0 zgx_0 kgx_1 zgx_1
  generalize ((((w13.setCell ⟨gx, 0, none⟩ (.bool (ng m))).setCell ⟨gx, 1, none⟩ (.slice A4 (ln m) c5)).setCell ⟨gy, 0, none⟩ (.bool (ng n))).setCell ⟨gy, 1, none⟩ (.slice A8 (ln n) c9)) = w15 at H ⊢
  have kgy_0 : w15.cell? ⟨gy, 0, none⟩ = some (.bool (ng n)) := H.cell m0 0
  have zgy_0 := H.frozen (g := gy) m0 0
  have kgy_1 : w15.cell? ⟨gy, 1, none⟩ = some (.slice A8 (ln n) c9) := H.cell m0 1
  have zgy_1 := H.frozen (g := gy) m0 1
  have kgx_0 : w15.cell? ⟨gx, 0, none⟩ = some (.bool (ng m)) := H.cell m1 0
  have zgx_0 := H.frozen (g := gx) m1 0
  have kgx_1 : w15.cell? ⟨gx, 1, none⟩ = some (.slice A4 (ln m) c5) := H.cell m1 1
  have zgx_1 := H.frozen (g := gx) m1 1
  have st19 := trivial
  have st21 := trivial
  have st25 := trivial
  have st27 := trivial
  have st31 := trivial
  have st33 := trivial
  have st39 := trivial
  have st41 := trivial
  have st43 := trivial
  go_upto_region 11 with (first
    | (clear st19; go_at_call 28; (with_reducible refine (AddQ (H.row _ m1) (H.row _ m0) (lim bm.out (by decide)) (lim bn.out (by decide)) s hs.out).mono ?_); rintro e w16 ⟨A17, c18, rfl, hr, hb⟩; replace H := H.got hr hb; clear hr hb; clear kgy_0 zgy_0 kgy_1 zgy_1 kgx_0 zgx_0 kgx_1 zgx_1; have kgy_0 : w16.cell? ⟨gy, 0, none⟩ = some (.bool (ng n)) := H.cell m0 0; have zgy_0 := H.frozen (g := gy) m0 0; have kgy_1 : w16.cell? ⟨gy, 1, none⟩ = some (.slice A8 (ln n) c9) := H.cell m0 1; have zgy_1 := H.frozen (g := gy) m0 1; have kgx_0 : w16.cell? ⟨gx, 0, none⟩ = some (.bool (ng m)) := H.cell m1 0; have zgx_0 := H.frozen (g := gx) m1 0; have kgx_1 : w16.cell? ⟨gx, 1, none⟩ = some (.slice A4 (ln m) c5) := H.cell m1 1; have zgx_1 := H.frozen (g := gx) m1 1)
    | (clear st21; go_at_call 29; (with_reducible refine (IntQ (H.row _ m0) (m + n) true i1.out f1.out).mono ?_); rintro e w20 ⟨rfl, hb⟩; replace H := H.call hb; clear hb; clear kgy_0 zgy_0 kgy_1 zgy_1 kgx_0 zgx_0 kgx_1 zgx_1; have kgy_0 : w20.cell? ⟨gy, 0, none⟩ = some (.bool (ng n)) := H.cell m0 0; have zgy_0 := H.frozen (g := gy) m0 0; have kgy_1 : w20.cell? ⟨gy, 1, none⟩ = some (.slice A8 (ln n) c9) := H.cell m0 1; have zgy_1 := H.frozen (g := gy) m0 1; have kgx_0 : w20.cell? ⟨gx, 0, none⟩ = some (.bool (ng m)) := H.cell m1 0; have zgx_0 := H.frozen (g := gx) m1 0; have kgx_1 : w20.cell? ⟨gx, 1, none⟩ = some (.slice A4 (ln m) c5) := H.cell m1 1; have zgx_1 := H.frozen (g := gx) m1 1)
    | (clear st25; go_at_call 30; (with_reducible refine (SubQ (H.row _ m2) (H.row _ m1) (lim bm.out (by decide)) (lim bn.out (by decide)) d hd.out).mono ?_); rintro e w22 ⟨A23, c24, rfl, hr, hb⟩; replace H := H.got hr hb; clear hr hb; clear kgy_0 zgy_0 kgy_1 zgy_1 kgx_0 zgx_0 kgx_1 zgx_1; have kgy_0 : w22.cell? ⟨gy, 0, none⟩ = some (.bool (ng n)) := H.cell m0 0; have zgy_0 := H.frozen (g := gy) m0 0; have kgy_1 : w22.cell? ⟨gy, 1, none⟩ = some (.slice A8 (ln n) c9) := H.cell m0 1; have zgy_1 := H.frozen (g := gy) m0 1; have kgx_0 : w22.cell? ⟨gx, 0, none⟩ = some (.bool (ng m)) := H.cell m1 0; have zgx_0 := H.frozen (g := gx) m1 0; have kgx_1 : w22.cell? ⟨gx, 1, none⟩ = some (.slice A4 (ln m) c5) := H.cell m1 1; have zgx_1 := H.frozen (g := gx) m1 1)
    | (clear st27; go_at_call 29; (with_reducible refine (IntQ (H.row _ m0) (m - n) true i2.out f2.out).mono ?_); rintro e w26 ⟨rfl, hb⟩; replace H := H.call hb; clear hb; clear kgy_0 zgy_0 kgy_1 zgy_1 kgx_0 zgx_0 kgx_1 zgx_1; have kgy_0 : w26.cell? ⟨gy, 0, none⟩ = some (.bool (ng n)) := H.cell m0 0; have zgy_0 := H.frozen (g := gy) m0 0; have kgy_1 : w26.cell? ⟨gy, 1, none⟩ = some (.slice A8 (ln n) c9) := H.cell m0 1; have zgy_1 := H.frozen (g := gy) m0 1; have kgx_0 : w26.cell? ⟨gx, 0, none⟩ = some (.bool (ng m)) := H.cell m1 0; have zgx_0 := H.frozen (g := gx) m1 0; have kgx_1 : w26.cell? ⟨gx, 1, none⟩ = some (.slice A4 (ln m) c5) := H.cell m1 1; have zgx_1 := H.frozen (g := gx) m1 1)
    | (clear st31; go_at_call 31; (with_reducible refine (MulQ (H.row _ m3) (H.row _ m2) (lim bm.out (by decide)) (lim bn.out (by decide)) p hp.out).mono ?_); rintro e w28 ⟨A29, c30, rfl, hr, hb⟩; replace H := H.got hr hb; clear hr hb; clear kgy_0 zgy_0 kgy_1 zgy_1 kgx_0 zgx_0 kgx_1 zgx_1; have kgy_0 : w28.cell? ⟨gy, 0, none⟩ = some (.bool (ng n)) := H.cell m0 0; have zgy_0 := H.frozen (g := gy) m0 0; have kgy_1 : w28.cell? ⟨gy, 1, none⟩ = some (.slice A8 (ln n) c9) := H.cell m0 1; have zgy_1 := H.frozen (g := gy) m0 1; have kgx_0 : w28.cell? ⟨gx, 0, none⟩ = some (.bool (ng m)) := H.cell m1 0; have zgx_0 := H.frozen (g := gx) m1 0; have kgx_1 : w28.cell? ⟨gx, 1, none⟩ = some (.slice A4 (ln m) c5) := H.cell m1 1; have zgx_1 := H.frozen (g := gx) m1 1)
    | (clear st33; go_at_call 29; (with_reducible refine (IntQ (H.row _ m0) (m * n) true i3.out f3.out).mono ?_); rintro e w32 ⟨rfl, hb⟩; replace H := H.call hb; clear hb; clear kgy_0 zgy_0 kgy_1 zgy_1 kgx_0 zgx_0 kgx_1 zgx_1; have kgy_0 : w32.cell? ⟨gy, 0, none⟩ = some (.bool (ng n)) := H.cell m0 0; have zgy_0 := H.frozen (g := gy) m0 0; have kgy_1 : w32.cell? ⟨gy, 1, none⟩ = some (.slice A8 (ln n) c9) := H.cell m0 1; have zgy_1 := H.frozen (g := gy) m0 1; have kgx_0 : w32.cell? ⟨gx, 0, none⟩ = some (.bool (ng m)) := H.cell m1 0; have zgx_0 := H.frozen (g := gx) m1 0; have kgx_1 : w32.cell? ⟨gx, 1, none⟩ = some (.slice A4 (ln m) c5) := H.cell m1 1; have zgx_1 := H.frozen (g := gx) m1 1)
    | (clear st39; go_at_call 32; (with_reducible refine (DivQ0 (H.row _ m4) _ _ hz'.out).mono ?_); rintro e w34 ⟨A35, c36, A37, c38, rfl, hr, hr2, hb⟩; replace H := (H.got hr hb).more ((H.got hr2 hb).row _ m0); clear hr hr2 hb; clear kgy_0 zgy_0 kgy_1 zgy_1 kgx_0 zgx_0 kgx_1 zgx_1; have kgy_0 : w34.cell? ⟨gy, 0, none⟩ = some (.bool (ng n)) := H.cell m0 0; have zgy_0 := H.frozen (g := gy) m0 0; have kgy_1 : w34.cell? ⟨gy, 1, none⟩ = some (.slice A8 (ln n) c9) := H.cell m0 1; have zgy_1 := H.frozen (g := gy) m0 1; have kgx_0 : w34.cell? ⟨gx, 0, none⟩ = some (.bool (ng m)) := H.cell m1 0; have zgx_0 := H.frozen (g := gx) m1 0; have kgx_1 : w34.cell? ⟨gx, 1, none⟩ = some (.slice A4 (ln m) c5) := H.cell m1 1; have zgx_1 := H.frozen (g := gx) m1 1)
    | (clear st41; (with_reducible refine gate_dst (N := 15) rfl ?_); refine box_event ?hg (N := 15) ?hd (cs := #[.bool false, .slice none 0 0]) (t := 25) ?hr ?_; (case hd => rfl); (case hg => rfl); (case hr => first | (go_simp; done) | (go_simp; rfl)); intro gq hg w40 hbox hb; replace H := H.newbox hg hbox hb; clear hg hbox hb; clear kgy_0 zgy_0 kgy_1 zgy_1 kgx_0 zgx_0 kgx_1 zgx_1; have kgq_0 : w40.cell? ⟨gq, 0, none⟩ = some (.bool false) := H.cell m0 0; have zgq_0 := H.frozen (g := gq) m0 0; have kgq_1 : w40.cell? ⟨gq, 1, none⟩ = some (.slice none 0 0) := H.cell m0 1; have zgq_1 := H.frozen (g := gq) m0 1; have kgy_0 : w40.cell? ⟨gy, 0, none⟩ = some (.bool (ng n)) := H.cell m1 0; have zgy_0 := H.frozen (g := gy) m1 0; have kgy_1 : w40.cell? ⟨gy, 1, none⟩ = some (.slice A8 (ln n) c9) := H.cell m1 1; have zgy_1 := H.frozen (g := gy) m1 1; have kgx_0 : w40.cell? ⟨gx, 0, none⟩ = some (.bool (ng m)) := H.cell m2 0; have zgx_0 := H.frozen (g := gx) m2 0; have kgx_1 : w40.cell? ⟨gx, 1, none⟩ = some (.slice A4 (ln m) c5) := H.cell m2 1; have zgx_1 := H.frozen (g := gx) m2 1; have ne_gq_gy := H.ne (g := gq) (g' := gy) 0 1 rfl rfl (by decide); have ne_gy_gq := ne_gq_gy.symm; have ne_gq_gx := H.ne (g := gq) (g' := gx) 0 2 rfl rfl (by decide); have ne_gx_gq := ne_gq_gx.symm)
    | (clear st43; (with_reducible refine gate_dst (N := 16) rfl ?_); refine box_event ?hg (N := 16) ?hd (cs := #[.bool false, .slice none 0 0]) (t := 25) ?hr ?_; (case hd => rfl); (case hg => rfl); (case hr => first | (go_simp; done) | (go_simp; rfl)); intro gr hg w42 hbox hb; replace H := H.newbox hg hbox hb; clear hg hbox hb; clear kgq_0 zgq_0 kgq_1 zgq_1 kgy_0 zgy_0 kgy_1 zgy_1 kgx_0 zgx_0 kgx_1 zgx_1; have kgr_0 : w42.cell? ⟨gr, 0, none⟩ = some (.bool false) := H.cell m0 0; have zgr_0 := H.frozen (g := gr) m0 0; have kgr_1 : w42.cell? ⟨gr, 1, none⟩ = some (.slice none 0 0) := H.cell m0 1; have zgr_1 := H.frozen (g := gr) m0 1; have kgq_0 : w42.cell? ⟨gq, 0, none⟩ = some (.bool false) := H.cell m1 0; have zgq_0 := H.frozen (g := gq) m1 0; have kgq_1 : w42.cell? ⟨gq, 1, none⟩ = some (.slice none 0 0) := H.cell m1 1; have zgq_1 := H.frozen (g := gq) m1 1; have kgy_0 : w42.cell? ⟨gy, 0, none⟩ = some (.bool (ng n)) := H.cell m2 0; have zgy_0 := H.frozen (g := gy) m2 0; have kgy_1 : w42.cell? ⟨gy, 1, none⟩ = some (.slice A8 (ln n) c9) := H.cell m2 1; have zgy_1 := H.frozen (g := gy) m2 1; have kgx_0 : w42.cell? ⟨gx, 0, none⟩ = some (.bool (ng m)) := H.cell m3 0; have zgx_0 := H.frozen (g := gx) m3 0; have kgx_1 : w42.cell? ⟨gx, 1, none⟩ = some (.slice A4 (ln m) c5) := H.cell m3 1; have zgx_1 := H.frozen (g := gx) m3 1; have ne_gr_gq := H.ne (g := gr) (g' := gq) 0 1 rfl rfl (by decide); have ne_gq_gr := ne_gr_gq.symm; have ne_gr_gy := H.ne (g := gr) (g' := gy) 0 2 rfl rfl (by decide); have ne_gy_gr := ne_gr_gy.symm; have ne_gr_gx := H.ne (g := gr) (g' := gx) 0 3 rfl rfl (by decide); have ne_gx_gr := ne_gr_gx.symm))
  (try simp only [Act.put, List.setIfInBounds_toArray, List.set_cons_zero, List.set_cons_succ])
  replace H := ((((H.setn [_] 0 (.bool (ng 0)) rfl).setn [_] 1 (.slice A35 (ln 0) c36) rfl).setn [] 0 (.bool (ng (0))) rfl).setn [] 1 (.slice A37 (ln (0)) c38) rfl)
  clear kgr_0 zgr_0 kgr_1 zgr_1 kgq_0 zgq_0 kgq_1 zgq_1 kgy_0 zgy_0 kgy_1 zgy_1 kgx_0 zgx_0 kgx_1 zgx_1
  generalize ((((w42.setCell ⟨gq, 0, none⟩ (.bool (ng 0))).setCell ⟨gq, 1, none⟩ (.slice A35 (ln 0) c36)).setCell ⟨gr, 0, none⟩ (.bool (ng (0)))).setCell ⟨gr, 1, none⟩ (.slice A37 (ln (0)) c38)) = w44 at H ⊢
  have kgr_0 : w44.cell? ⟨gr, 0, none⟩ = some (.bool (ng (0))) := H.cell m0 0
  have zgr_0 := H.frozen (g := gr) m0 0
  have kgr_1 : w44.cell? ⟨gr, 1, none⟩ = some (.slice A37 (ln (0)) c38) := H.cell m0 1
  have zgr_1 := H.frozen (g := gr) m0 1
  have kgq_0 : w44.cell? ⟨gq, 0, none⟩ = some (.bool (ng 0)) := H.cell m1 0
  have zgq_0 := H.frozen (g := gq) m1 0
  have kgq_1 : w44.cell? ⟨gq, 1, none⟩ = some (.slice A35 (ln 0) c36) := H.cell m1 1
  have zgq_1 := H.frozen (g := gq) m1 1
  have kgy_0 : w44.cell? ⟨gy, 0, none⟩ = some (.bool (ng n)) := H.cell m2 0
  have zgy_0 := H.frozen (g := gy) m2 0
  have kgy_1 : w44.cell? ⟨gy, 1, none⟩ = some (.slice A8 (ln n) c9) := H.cell m2 1
  have zgy_1 := H.frozen (g := gy) m2 1
  have kgx_0 : w44.cell? ⟨gx, 0, none⟩ = some (.bool (ng m)) := H.cell m3 0
  have zgx_0 := H.frozen (g := gx) m3 0
  have kgx_1 : w44.cell? ⟨gx, 1, none⟩ = some (.slice A4 (ln m) c5) := H.cell m3 1
  have zgx_1 := H.frozen (g := gx) m3 1
  go_wp2
  go_ret
  exact ⟨rfl, H.below⟩

set_option maxHeartbeats 8000000 in
set_option maxRecDepth 100000 in
theorem small_t (a b : Int) (w : World) (a0 : -2147483648 ≤ a) (a1 : a ≤ 2147483647) (b0 : -2147483648 ≤ b) (b1 : b ≤ 2147483647) (hz : Aside0 (b.tdiv 2 ≠ 0)) : Calls Try.prog 4 #[.int .i32 a, .int .i32 b] w (fun e W' => e = .returned (.bool true) ∧ Below w.heap.size w W') := by
  have hu25 := Try.underlying25
  have H := Sit.start w (fun _ => False)
  go_enter Try.func4, Try.ntmps4
  have st2 := trivial
  go_upto_region 4 with (first
    | (clear st2; go_at_call 22; (with_reducible refine (awake_ok _).mono ?_); rintro e wA ⟨rfl, hb⟩; replace H := H.call hb; clear hb))
  (try simp only [Act.put, List.setIfInBounds_toArray, List.set_cons_zero, List.set_cons_succ])
  have am := half_range (a := a) (by omega) (by omega)
  have bm' := half_range (a := b) (by omega) (by omega)
  generalize a.tdiv 2 = m at am ⊢
  have hz1 := hz.out
  clear hz
  generalize b.tdiv 2 = n at bm' hz1 ⊢
  obtain ⟨lm0, lm1⟩ := am
  obtain ⟨ln0, ln1⟩ := bm'
  have mr := mul_range lm0 lm1 ln0 ln1
  obtain ⟨p0, p1⟩ := mr
  obtain ⟨s, es⟩ : ∃ v : Int, m + n = v := ⟨_, rfl⟩
  obtain ⟨d, ed⟩ : ∃ v : Int, m - n = v := ⟨_, rfl⟩
  obtain ⟨p, ep⟩ : ∃ v : Int, m * n = v := ⟨_, rfl⟩
  have hs := Aside0.mk es
  have hd := Aside0.mk ed
  have hp := Aside0.mk ep
  have bm := Aside0.mk (show ln m ≤ 1 from ln_bound m 1 (by omega))
  have bn := Aside0.mk (show ln n ≤ 1 from ln_bound n 1 (by omega))
  have bs := Aside0.mk (bAdd bm.out bn.out es)
  have bd := Aside0.mk (bSub bm.out bn.out ed)
  have bp := Aside0.mk (bMul bm.out bn.out ep)
  have i1 := Aside0.mk (show intOfI s = m + n by rw [← es]; exact intOf_fit (by omega) (by omega))
  have f1 := Aside0.mk (show fitsI s = true from fits_fit (by omega) (by omega))
  have i2 := Aside0.mk (show intOfI d = m - n by rw [← ed]; exact intOf_fit (by omega) (by omega))
  have f2 := Aside0.mk (show fitsI d = true from fits_fit (by omega) (by omega))
  have i3 := Aside0.mk (show intOfI p = m * n by rw [← ep]; exact intOf_fit (by omega) (by omega))
  have f3 := Aside0.mk (show fitsI p = true from fits_fit (by omega) (by omega))
  have t1 : (m + n != m + n) = false := by simp
  have t2 : (m - n != m - n) = false := by simp
  have t3 : (m * n != m * n) = false := by simp
  obtain ⟨q, eq⟩ : ∃ v : Int, m.tdiv n = v := ⟨_, rfl⟩
  obtain ⟨r, er⟩ : ∃ v : Int, m.tmod n = v := ⟨_, rfl⟩
  have hq := Aside0.mk eq
  have hr' := Aside0.mk er
  have qr := tdiv_range (m := m) (n := n) lm0 lm1
  have rr := tmod_range (m := m) (n := n) lm0 lm1
  obtain ⟨q0, q1⟩ := qr
  obtain ⟨r0, r1⟩ := rr
  have i4 := Aside0.mk (show intOfI q = m.tdiv n by rw [← eq]; exact intOf_fit (by omega) (by omega))
  have f4 := Aside0.mk (show fitsI q = true from fits_fit (by omega) (by omega))
  have i5 := Aside0.mk (show intOfI r = m.tmod n by rw [← er]; exact intOf_fit (by omega) (by omega))
  have f5 := Aside0.mk (show fitsI r = true from fits_fit (by omega) (by omega))
  have bq := Aside0.mk (show ln q ≤ 1 from ln_bound q 1 (by omega))
  have br := Aside0.mk (show ln r ≤ 1 from ln_bound r 1 (by omega))
  have t4 : (n == 0) = false := beq_eq_false_iff_ne.mpr hz1
  have hz' := Aside0.mk hz1
  have t5 : (m.tdiv n == m.tdiv n) = true := by simp
  have t6 : (m.tmod n == m.tmod n) = true := by simp
  clear eq er
  clear es ed ep a0 a1 b0 b1
  have st6 := trivial
  have st10 := trivial
  have st12 := trivial
  have st14 := trivial
  go_upto_region 5 with (first
    | (clear st6; go_at_call 27; (with_reducible refine (OfQ _ m m rfl (by omega) (by omega)).mono ?_); rintro e w3 ⟨A4, c5, rfl, hr, hb⟩; replace H := H.got (fresh_row hr) hb; clear hr hb)
    | (clear st10; go_at_call 27; (with_reducible refine (OfQ _ n n rfl (by omega) (by omega)).mono ?_); rintro e w7 ⟨A8, c9, rfl, hr, hb⟩; replace H := H.got (fresh_row hr) hb; clear hr hb)
    | (clear st12; (with_reducible refine gate_dst (N := 7) rfl ?_); refine box_event ?hg (N := 7) ?hd (cs := #[.bool false, .slice none 0 0]) (t := 25) ?hr ?_; (case hd => rfl); (case hg => rfl); (case hr => first | (go_simp; done) | (go_simp; rfl)); intro gx hg w11 hbox hb; replace H := H.newbox hg hbox hb; clear hg hbox hb; have kgx_0 : w11.cell? ⟨gx, 0, none⟩ = some (.bool false) := H.cell m0 0; have zgx_0 := H.frozen (g := gx) m0 0; have kgx_1 : w11.cell? ⟨gx, 1, none⟩ = some (.slice none 0 0) := H.cell m0 1; have zgx_1 := H.frozen (g := gx) m0 1)
    | (clear st14; (with_reducible refine gate_dst (N := 8) rfl ?_); refine box_event ?hg (N := 8) ?hd (cs := #[.bool false, .slice none 0 0]) (t := 25) ?hr ?_; (case hd => rfl); (case hg => rfl); (case hr => first | (go_simp; done) | (go_simp; rfl)); intro gy hg w13 hbox hb; replace H := H.newbox hg hbox hb; clear hg hbox hb; clear kgx_0 zgx_0 kgx_1 zgx_1; have kgy_0 : w13.cell? ⟨gy, 0, none⟩ = some (.bool false) := H.cell m0 0; have zgy_0 := H.frozen (g := gy) m0 0; have kgy_1 : w13.cell? ⟨gy, 1, none⟩ = some (.slice none 0 0) := H.cell m0 1; have zgy_1 := H.frozen (g := gy) m0 1; have kgx_0 : w13.cell? ⟨gx, 0, none⟩ = some (.bool false) := H.cell m1 0; have zgx_0 := H.frozen (g := gx) m1 0; have kgx_1 : w13.cell? ⟨gx, 1, none⟩ = some (.slice none 0 0) := H.cell m1 1; have zgx_1 := H.frozen (g := gx) m1 1; have ne_gy_gx := H.ne (g := gy) (g' := gx) 0 1 rfl rfl (by decide); have ne_gx_gy := ne_gy_gx.symm))
  (try simp only [Act.put, List.setIfInBounds_toArray, List.set_cons_zero, List.set_cons_succ])
  replace H := ((((H.setn [_] 0 (.bool (ng m)) rfl).setn [_] 1 (.slice A4 (ln m) c5) rfl).setn [] 0 (.bool (ng n)) rfl).setn [] 1 (.slice A8 (ln n) c9) rfl)
  clear kgy_0 zgy_0 kgy_1 zgy_1 kgx_0 zgx_0 kgx_1 zgx_1
  generalize ((((w13.setCell ⟨gx, 0, none⟩ (.bool (ng m))).setCell ⟨gx, 1, none⟩ (.slice A4 (ln m) c5)).setCell ⟨gy, 0, none⟩ (.bool (ng n))).setCell ⟨gy, 1, none⟩ (.slice A8 (ln n) c9)) = w15 at H ⊢
  have kgy_0 : w15.cell? ⟨gy, 0, none⟩ = some (.bool (ng n)) := H.cell m0 0
  have zgy_0 := H.frozen (g := gy) m0 0
  have kgy_1 : w15.cell? ⟨gy, 1, none⟩ = some (.slice A8 (ln n) c9) := H.cell m0 1
  have zgy_1 := H.frozen (g := gy) m0 1
  have kgx_0 : w15.cell? ⟨gx, 0, none⟩ = some (.bool (ng m)) := H.cell m1 0
  have zgx_0 := H.frozen (g := gx) m1 0
  have kgx_1 : w15.cell? ⟨gx, 1, none⟩ = some (.slice A4 (ln m) c5) := H.cell m1 1
  have zgx_1 := H.frozen (g := gx) m1 1
  have st19 := trivial
  have st21 := trivial
  have st25 := trivial
  have st27 := trivial
  have st31 := trivial
  have st33 := trivial
  have st39 := trivial
  have st41 := trivial
  have st43 := trivial
  go_upto_region 11 with (first
    | (clear st19; go_at_call 28; (with_reducible refine (AddQ (H.row _ m1) (H.row _ m0) (lim bm.out (by decide)) (lim bn.out (by decide)) s hs.out).mono ?_); rintro e w16 ⟨A17, c18, rfl, hr, hb⟩; replace H := H.got hr hb; clear hr hb; clear kgy_0 zgy_0 kgy_1 zgy_1 kgx_0 zgx_0 kgx_1 zgx_1; have kgy_0 : w16.cell? ⟨gy, 0, none⟩ = some (.bool (ng n)) := H.cell m0 0; have zgy_0 := H.frozen (g := gy) m0 0; have kgy_1 : w16.cell? ⟨gy, 1, none⟩ = some (.slice A8 (ln n) c9) := H.cell m0 1; have zgy_1 := H.frozen (g := gy) m0 1; have kgx_0 : w16.cell? ⟨gx, 0, none⟩ = some (.bool (ng m)) := H.cell m1 0; have zgx_0 := H.frozen (g := gx) m1 0; have kgx_1 : w16.cell? ⟨gx, 1, none⟩ = some (.slice A4 (ln m) c5) := H.cell m1 1; have zgx_1 := H.frozen (g := gx) m1 1)
    | (clear st21; go_at_call 29; (with_reducible refine (IntQ (H.row _ m0) (m + n) true i1.out f1.out).mono ?_); rintro e w20 ⟨rfl, hb⟩; replace H := H.call hb; clear hb; clear kgy_0 zgy_0 kgy_1 zgy_1 kgx_0 zgx_0 kgx_1 zgx_1; have kgy_0 : w20.cell? ⟨gy, 0, none⟩ = some (.bool (ng n)) := H.cell m0 0; have zgy_0 := H.frozen (g := gy) m0 0; have kgy_1 : w20.cell? ⟨gy, 1, none⟩ = some (.slice A8 (ln n) c9) := H.cell m0 1; have zgy_1 := H.frozen (g := gy) m0 1; have kgx_0 : w20.cell? ⟨gx, 0, none⟩ = some (.bool (ng m)) := H.cell m1 0; have zgx_0 := H.frozen (g := gx) m1 0; have kgx_1 : w20.cell? ⟨gx, 1, none⟩ = some (.slice A4 (ln m) c5) := H.cell m1 1; have zgx_1 := H.frozen (g := gx) m1 1)
    | (clear st25; go_at_call 30; (with_reducible refine (SubQ (H.row _ m2) (H.row _ m1) (lim bm.out (by decide)) (lim bn.out (by decide)) d hd.out).mono ?_); rintro e w22 ⟨A23, c24, rfl, hr, hb⟩; replace H := H.got hr hb; clear hr hb; clear kgy_0 zgy_0 kgy_1 zgy_1 kgx_0 zgx_0 kgx_1 zgx_1; have kgy_0 : w22.cell? ⟨gy, 0, none⟩ = some (.bool (ng n)) := H.cell m0 0; have zgy_0 := H.frozen (g := gy) m0 0; have kgy_1 : w22.cell? ⟨gy, 1, none⟩ = some (.slice A8 (ln n) c9) := H.cell m0 1; have zgy_1 := H.frozen (g := gy) m0 1; have kgx_0 : w22.cell? ⟨gx, 0, none⟩ = some (.bool (ng m)) := H.cell m1 0; have zgx_0 := H.frozen (g := gx) m1 0; have kgx_1 : w22.cell? ⟨gx, 1, none⟩ = some (.slice A4 (ln m) c5) := H.cell m1 1; have zgx_1 := H.frozen (g := gx) m1 1)
    | (clear st27; go_at_call 29; (with_reducible refine (IntQ (H.row _ m0) (m - n) true i2.out f2.out).mono ?_); rintro e w26 ⟨rfl, hb⟩; replace H := H.call hb; clear hb; clear kgy_0 zgy_0 kgy_1 zgy_1 kgx_0 zgx_0 kgx_1 zgx_1; have kgy_0 : w26.cell? ⟨gy, 0, none⟩ = some (.bool (ng n)) := H.cell m0 0; have zgy_0 := H.frozen (g := gy) m0 0; have kgy_1 : w26.cell? ⟨gy, 1, none⟩ = some (.slice A8 (ln n) c9) := H.cell m0 1; have zgy_1 := H.frozen (g := gy) m0 1; have kgx_0 : w26.cell? ⟨gx, 0, none⟩ = some (.bool (ng m)) := H.cell m1 0; have zgx_0 := H.frozen (g := gx) m1 0; have kgx_1 : w26.cell? ⟨gx, 1, none⟩ = some (.slice A4 (ln m) c5) := H.cell m1 1; have zgx_1 := H.frozen (g := gx) m1 1)
    | (clear st31; go_at_call 31; (with_reducible refine (MulQ (H.row _ m3) (H.row _ m2) (lim bm.out (by decide)) (lim bn.out (by decide)) p hp.out).mono ?_); rintro e w28 ⟨A29, c30, rfl, hr, hb⟩; replace H := H.got hr hb; clear hr hb; clear kgy_0 zgy_0 kgy_1 zgy_1 kgx_0 zgx_0 kgx_1 zgx_1; have kgy_0 : w28.cell? ⟨gy, 0, none⟩ = some (.bool (ng n)) := H.cell m0 0; have zgy_0 := H.frozen (g := gy) m0 0; have kgy_1 : w28.cell? ⟨gy, 1, none⟩ = some (.slice A8 (ln n) c9) := H.cell m0 1; have zgy_1 := H.frozen (g := gy) m0 1; have kgx_0 : w28.cell? ⟨gx, 0, none⟩ = some (.bool (ng m)) := H.cell m1 0; have zgx_0 := H.frozen (g := gx) m1 0; have kgx_1 : w28.cell? ⟨gx, 1, none⟩ = some (.slice A4 (ln m) c5) := H.cell m1 1; have zgx_1 := H.frozen (g := gx) m1 1)
    | (clear st33; go_at_call 29; (with_reducible refine (IntQ (H.row _ m0) (m * n) true i3.out f3.out).mono ?_); rintro e w32 ⟨rfl, hb⟩; replace H := H.call hb; clear hb; clear kgy_0 zgy_0 kgy_1 zgy_1 kgx_0 zgx_0 kgx_1 zgx_1; have kgy_0 : w32.cell? ⟨gy, 0, none⟩ = some (.bool (ng n)) := H.cell m0 0; have zgy_0 := H.frozen (g := gy) m0 0; have kgy_1 : w32.cell? ⟨gy, 1, none⟩ = some (.slice A8 (ln n) c9) := H.cell m0 1; have zgy_1 := H.frozen (g := gy) m0 1; have kgx_0 : w32.cell? ⟨gx, 0, none⟩ = some (.bool (ng m)) := H.cell m1 0; have zgx_0 := H.frozen (g := gx) m1 0; have kgx_1 : w32.cell? ⟨gx, 1, none⟩ = some (.slice A4 (ln m) c5) := H.cell m1 1; have zgx_1 := H.frozen (g := gx) m1 1)
    | (clear st39; go_at_call 32; (with_reducible refine (DivQ1 (H.row _ m4) (H.row _ m3) (lim bm.out (by decide)) bn.out hz'.out q r hq.out hr'.out).mono ?_); rintro e w34 ⟨A35, c36, A37, c38, rfl, hr, hr2, hb⟩; replace H := (H.got hr hb).more ((H.got hr2 hb).row _ m0); clear hr hr2 hb; clear kgy_0 zgy_0 kgy_1 zgy_1 kgx_0 zgx_0 kgx_1 zgx_1; have kgy_0 : w34.cell? ⟨gy, 0, none⟩ = some (.bool (ng n)) := H.cell m0 0; have zgy_0 := H.frozen (g := gy) m0 0; have kgy_1 : w34.cell? ⟨gy, 1, none⟩ = some (.slice A8 (ln n) c9) := H.cell m0 1; have zgy_1 := H.frozen (g := gy) m0 1; have kgx_0 : w34.cell? ⟨gx, 0, none⟩ = some (.bool (ng m)) := H.cell m1 0; have zgx_0 := H.frozen (g := gx) m1 0; have kgx_1 : w34.cell? ⟨gx, 1, none⟩ = some (.slice A4 (ln m) c5) := H.cell m1 1; have zgx_1 := H.frozen (g := gx) m1 1)
    | (clear st41; (with_reducible refine gate_dst (N := 15) rfl ?_); refine box_event ?hg (N := 15) ?hd (cs := #[.bool false, .slice none 0 0]) (t := 25) ?hr ?_; (case hd => rfl); (case hg => rfl); (case hr => first | (go_simp; done) | (go_simp; rfl)); intro gq hg w40 hbox hb; replace H := H.newbox hg hbox hb; clear hg hbox hb; clear kgy_0 zgy_0 kgy_1 zgy_1 kgx_0 zgx_0 kgx_1 zgx_1; have kgq_0 : w40.cell? ⟨gq, 0, none⟩ = some (.bool false) := H.cell m0 0; have zgq_0 := H.frozen (g := gq) m0 0; have kgq_1 : w40.cell? ⟨gq, 1, none⟩ = some (.slice none 0 0) := H.cell m0 1; have zgq_1 := H.frozen (g := gq) m0 1; have kgy_0 : w40.cell? ⟨gy, 0, none⟩ = some (.bool (ng n)) := H.cell m1 0; have zgy_0 := H.frozen (g := gy) m1 0; have kgy_1 : w40.cell? ⟨gy, 1, none⟩ = some (.slice A8 (ln n) c9) := H.cell m1 1; have zgy_1 := H.frozen (g := gy) m1 1; have kgx_0 : w40.cell? ⟨gx, 0, none⟩ = some (.bool (ng m)) := H.cell m2 0; have zgx_0 := H.frozen (g := gx) m2 0; have kgx_1 : w40.cell? ⟨gx, 1, none⟩ = some (.slice A4 (ln m) c5) := H.cell m2 1; have zgx_1 := H.frozen (g := gx) m2 1; have ne_gq_gy := H.ne (g := gq) (g' := gy) 0 1 rfl rfl (by decide); have ne_gy_gq := ne_gq_gy.symm; have ne_gq_gx := H.ne (g := gq) (g' := gx) 0 2 rfl rfl (by decide); have ne_gx_gq := ne_gq_gx.symm)
    | (clear st43; (with_reducible refine gate_dst (N := 16) rfl ?_); refine box_event ?hg (N := 16) ?hd (cs := #[.bool false, .slice none 0 0]) (t := 25) ?hr ?_; (case hd => rfl); (case hg => rfl); (case hr => first | (go_simp; done) | (go_simp; rfl)); intro gr hg w42 hbox hb; replace H := H.newbox hg hbox hb; clear hg hbox hb; clear kgq_0 zgq_0 kgq_1 zgq_1 kgy_0 zgy_0 kgy_1 zgy_1 kgx_0 zgx_0 kgx_1 zgx_1; have kgr_0 : w42.cell? ⟨gr, 0, none⟩ = some (.bool false) := H.cell m0 0; have zgr_0 := H.frozen (g := gr) m0 0; have kgr_1 : w42.cell? ⟨gr, 1, none⟩ = some (.slice none 0 0) := H.cell m0 1; have zgr_1 := H.frozen (g := gr) m0 1; have kgq_0 : w42.cell? ⟨gq, 0, none⟩ = some (.bool false) := H.cell m1 0; have zgq_0 := H.frozen (g := gq) m1 0; have kgq_1 : w42.cell? ⟨gq, 1, none⟩ = some (.slice none 0 0) := H.cell m1 1; have zgq_1 := H.frozen (g := gq) m1 1; have kgy_0 : w42.cell? ⟨gy, 0, none⟩ = some (.bool (ng n)) := H.cell m2 0; have zgy_0 := H.frozen (g := gy) m2 0; have kgy_1 : w42.cell? ⟨gy, 1, none⟩ = some (.slice A8 (ln n) c9) := H.cell m2 1; have zgy_1 := H.frozen (g := gy) m2 1; have kgx_0 : w42.cell? ⟨gx, 0, none⟩ = some (.bool (ng m)) := H.cell m3 0; have zgx_0 := H.frozen (g := gx) m3 0; have kgx_1 : w42.cell? ⟨gx, 1, none⟩ = some (.slice A4 (ln m) c5) := H.cell m3 1; have zgx_1 := H.frozen (g := gx) m3 1; have ne_gr_gq := H.ne (g := gr) (g' := gq) 0 1 rfl rfl (by decide); have ne_gq_gr := ne_gr_gq.symm; have ne_gr_gy := H.ne (g := gr) (g' := gy) 0 2 rfl rfl (by decide); have ne_gy_gr := ne_gr_gy.symm; have ne_gr_gx := H.ne (g := gr) (g' := gx) 0 3 rfl rfl (by decide); have ne_gx_gr := ne_gr_gx.symm))
  (try simp only [Act.put, List.setIfInBounds_toArray, List.set_cons_zero, List.set_cons_succ])
  replace H := ((((H.setn [_] 0 (.bool (ng q)) rfl).setn [_] 1 (.slice A35 (ln q) c36) rfl).setn [] 0 (.bool (ng r)) rfl).setn [] 1 (.slice A37 (ln r) c38) rfl)
  clear kgr_0 zgr_0 kgr_1 zgr_1 kgq_0 zgq_0 kgq_1 zgq_1 kgy_0 zgy_0 kgy_1 zgy_1 kgx_0 zgx_0 kgx_1 zgx_1
  generalize ((((w42.setCell ⟨gq, 0, none⟩ (.bool (ng q))).setCell ⟨gq, 1, none⟩ (.slice A35 (ln q) c36)).setCell ⟨gr, 0, none⟩ (.bool (ng r))).setCell ⟨gr, 1, none⟩ (.slice A37 (ln r) c38)) = w44 at H ⊢
  have kgr_0 : w44.cell? ⟨gr, 0, none⟩ = some (.bool (ng r)) := H.cell m0 0
  have zgr_0 := H.frozen (g := gr) m0 0
  have kgr_1 : w44.cell? ⟨gr, 1, none⟩ = some (.slice A37 (ln r) c38) := H.cell m0 1
  have zgr_1 := H.frozen (g := gr) m0 1
  have kgq_0 : w44.cell? ⟨gq, 0, none⟩ = some (.bool (ng q)) := H.cell m1 0
  have zgq_0 := H.frozen (g := gq) m1 0
  have kgq_1 : w44.cell? ⟨gq, 1, none⟩ = some (.slice A35 (ln q) c36) := H.cell m1 1
  have zgq_1 := H.frozen (g := gq) m1 1
  have kgy_0 : w44.cell? ⟨gy, 0, none⟩ = some (.bool (ng n)) := H.cell m2 0
  have zgy_0 := H.frozen (g := gy) m2 0
  have kgy_1 : w44.cell? ⟨gy, 1, none⟩ = some (.slice A8 (ln n) c9) := H.cell m2 1
  have zgy_1 := H.frozen (g := gy) m2 1
  have kgx_0 : w44.cell? ⟨gx, 0, none⟩ = some (.bool (ng m)) := H.cell m3 0
  have zgx_0 := H.frozen (g := gx) m3 0
  have kgx_1 : w44.cell? ⟨gx, 1, none⟩ = some (.slice A4 (ln m) c5) := H.cell m3 1
  have zgx_1 := H.frozen (g := gx) m3 1
  have st46 := trivial
  have st48 := trivial
  go_wp2_with (first
    | (clear st46; go_at_call 29; (with_reducible refine (IntQ (H.row _ m1) (m.tdiv n) true i4.out f4.out).mono ?_); rintro e w45 ⟨rfl, hb⟩; replace H := H.call hb; clear hb; clear kgr_0 zgr_0 kgr_1 zgr_1 kgq_0 zgq_0 kgq_1 zgq_1 kgy_0 zgy_0 kgy_1 zgy_1 kgx_0 zgx_0 kgx_1 zgx_1; have kgr_0 : w45.cell? ⟨gr, 0, none⟩ = some (.bool (ng r)) := H.cell m0 0; have zgr_0 := H.frozen (g := gr) m0 0; have kgr_1 : w45.cell? ⟨gr, 1, none⟩ = some (.slice A37 (ln r) c38) := H.cell m0 1; have zgr_1 := H.frozen (g := gr) m0 1; have kgq_0 : w45.cell? ⟨gq, 0, none⟩ = some (.bool (ng q)) := H.cell m1 0; have zgq_0 := H.frozen (g := gq) m1 0; have kgq_1 : w45.cell? ⟨gq, 1, none⟩ = some (.slice A35 (ln q) c36) := H.cell m1 1; have zgq_1 := H.frozen (g := gq) m1 1; have kgy_0 : w45.cell? ⟨gy, 0, none⟩ = some (.bool (ng n)) := H.cell m2 0; have zgy_0 := H.frozen (g := gy) m2 0; have kgy_1 : w45.cell? ⟨gy, 1, none⟩ = some (.slice A8 (ln n) c9) := H.cell m2 1; have zgy_1 := H.frozen (g := gy) m2 1; have kgx_0 : w45.cell? ⟨gx, 0, none⟩ = some (.bool (ng m)) := H.cell m3 0; have zgx_0 := H.frozen (g := gx) m3 0; have kgx_1 : w45.cell? ⟨gx, 1, none⟩ = some (.slice A4 (ln m) c5) := H.cell m3 1; have zgx_1 := H.frozen (g := gx) m3 1)
    | (clear st48; go_at_call 29; (with_reducible refine (IntQ (H.row _ m0) (m.tmod n) true i5.out f5.out).mono ?_); rintro e w47 ⟨rfl, hb⟩; replace H := H.call hb; clear hb; clear kgr_0 zgr_0 kgr_1 zgr_1 kgq_0 zgq_0 kgq_1 zgq_1 kgy_0 zgy_0 kgy_1 zgy_1 kgx_0 zgx_0 kgx_1 zgx_1; have kgr_0 : w47.cell? ⟨gr, 0, none⟩ = some (.bool (ng r)) := H.cell m0 0; have zgr_0 := H.frozen (g := gr) m0 0; have kgr_1 : w47.cell? ⟨gr, 1, none⟩ = some (.slice A37 (ln r) c38) := H.cell m0 1; have zgr_1 := H.frozen (g := gr) m0 1; have kgq_0 : w47.cell? ⟨gq, 0, none⟩ = some (.bool (ng q)) := H.cell m1 0; have zgq_0 := H.frozen (g := gq) m1 0; have kgq_1 : w47.cell? ⟨gq, 1, none⟩ = some (.slice A35 (ln q) c36) := H.cell m1 1; have zgq_1 := H.frozen (g := gq) m1 1; have kgy_0 : w47.cell? ⟨gy, 0, none⟩ = some (.bool (ng n)) := H.cell m2 0; have zgy_0 := H.frozen (g := gy) m2 0; have kgy_1 : w47.cell? ⟨gy, 1, none⟩ = some (.slice A8 (ln n) c9) := H.cell m2 1; have zgy_1 := H.frozen (g := gy) m2 1; have kgx_0 : w47.cell? ⟨gx, 0, none⟩ = some (.bool (ng m)) := H.cell m3 0; have zgx_0 := H.frozen (g := gx) m3 0; have kgx_1 : w47.cell? ⟨gx, 1, none⟩ = some (.slice A4 (ln m) c5) := H.cell m3 1; have zgx_1 := H.frozen (g := gx) m3 1))
  go_ret
  exact ⟨rfl, H.below⟩

theorem small_walk (a b : Int) (w : World) (a0 : -2147483648 ≤ a) (a1 : a ≤ 2147483647) (b0 : -2147483648 ≤ b) (b1 : b ≤ 2147483647) : Calls Try.prog 4 #[.int .i32 a, .int .i32 b] w (fun e W' => e = .returned (.bool true) ∧ Below w.heap.size w W') := by
  by_cases hz : b.tdiv 2 = 0
  · exact small_0 a b w a0 a1 b0 b1 ⟨hz⟩
  · exact small_t a b w a0 a1 b0 b1 ⟨hz⟩
theorem wf_i32 {a : Int} (h : (Lit.int .i32 a).wf = true) : -2147483648 ≤ a ∧ a ≤ 2147483647 := by
  simp only [Lit.wf, Bool.and_eq_true, decide_eq_true_eq] at h
  exact h

end Go.Proofs.Ytdkapdgbfejgdaa
