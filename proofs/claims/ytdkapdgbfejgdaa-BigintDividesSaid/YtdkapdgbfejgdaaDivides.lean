/- The walk of the law BigintDivides. -/
import Derived.Test.YtdkapdgbfejgdaaZd
import Derived.Test.YtdkapdgbfejgdaaTw
namespace Go.Proofs.Ytdkapdgbfejgdaa
open Go.RowKit Go.Proofs.YtdkapdgbfejgdaaW.PrintWords Go.Proofs.YtdkapdgbfejgdaaW.PrintLast Go.Proofs.YtdkapdgbfejgdaaW.PrintMore
set_option linter.unusedSimpArgs false
set_option linter.unusedVariables false

set_option maxHeartbeats 8000000 in
set_option maxRecDepth 100000 in
theorem divides_f (a b : ByteArray) (w : World) (x y : Int) (hAB : Aside0 (∀ w, Calls Try.prog 33 #[.string a, .string b] w (RetTwo w x y false))) : Calls Try.prog 5 #[.string a, .string b] w (fun e W' => e = .returned (.bool true) ∧ Below w.heap.size w W') := by
  have hu25 := Try.underlying25
  have H := Sit.start w (fun _ => False)
  go_enter Try.func5, Try.ntmps5
  have st2 := trivial
  have st8 := trivial
  have st10 := trivial
  have st12 := trivial
  go_upto_region 4 with (first
    | (clear st2; go_at_call 22; (with_reducible refine (awake_ok _).mono ?_); rintro e wA ⟨rfl, hb⟩; replace H := H.call hb; clear hb)
    | (clear st8; go_at_call 33; (with_reducible refine (hAB.out _).mono ?_); rintro e w3 ⟨A4, c5, A6, c7, rfl, hr, hr2, hb⟩; replace H := (H.got (fresh_row hr) hb).more ((H.got (fresh_row hr2) hb).row _ m0); clear hr hr2 hb)
    | (clear st10; (with_reducible refine gate_dst (N := 5) rfl ?_); refine box_event ?hg (N := 5) ?hd (cs := #[.bool false, .slice none 0 0]) (t := 25) ?hr ?_; (case hd => rfl); (case hg => rfl); (case hr => first | (go_simp; done) | (go_simp; rfl)); intro gx hg w9 hbox hb; replace H := H.newbox hg hbox hb; clear hg hbox hb; have kgx_0 : w9.cell? ⟨gx, 0, none⟩ = some (.bool false) := H.cell m0 0; have zgx_0 := H.frozen (g := gx) m0 0; have kgx_1 : w9.cell? ⟨gx, 1, none⟩ = some (.slice none 0 0) := H.cell m0 1; have zgx_1 := H.frozen (g := gx) m0 1)
    | (clear st12; (with_reducible refine gate_dst (N := 6) rfl ?_); refine box_event ?hg (N := 6) ?hd (cs := #[.bool false, .slice none 0 0]) (t := 25) ?hr ?_; (case hd => rfl); (case hg => rfl); (case hr => first | (go_simp; done) | (go_simp; rfl)); intro gy hg w11 hbox hb; replace H := H.newbox hg hbox hb; clear hg hbox hb; clear kgx_0 zgx_0 kgx_1 zgx_1; have kgy_0 : w11.cell? ⟨gy, 0, none⟩ = some (.bool false) := H.cell m0 0; have zgy_0 := H.frozen (g := gy) m0 0; have kgy_1 : w11.cell? ⟨gy, 1, none⟩ = some (.slice none 0 0) := H.cell m0 1; have zgy_1 := H.frozen (g := gy) m0 1; have kgx_0 : w11.cell? ⟨gx, 0, none⟩ = some (.bool false) := H.cell m1 0; have zgx_0 := H.frozen (g := gx) m1 0; have kgx_1 : w11.cell? ⟨gx, 1, none⟩ = some (.slice none 0 0) := H.cell m1 1; have zgx_1 := H.frozen (g := gx) m1 1; have ne_gy_gx := H.ne (g := gy) (g' := gx) 0 1 rfl rfl (by decide); have ne_gx_gy := ne_gy_gx.symm))
  (try simp only [Act.put, List.setIfInBounds_toArray, List.set_cons_zero, List.set_cons_succ])
  replace H := ((((H.setn [_] 0 (.bool (ng x)) rfl).setn [_] 1 (.slice A4 (ln x) c5) rfl).setn [] 0 (.bool (ng y)) rfl).setn [] 1 (.slice A6 (ln y) c7) rfl)
  clear kgy_0 zgy_0 kgy_1 zgy_1 kgx_0 zgx_0 kgx_1 zgx_1
  generalize ((((w11.setCell ⟨gx, 0, none⟩ (.bool (ng x))).setCell ⟨gx, 1, none⟩ (.slice A4 (ln x) c5)).setCell ⟨gy, 0, none⟩ (.bool (ng y))).setCell ⟨gy, 1, none⟩ (.slice A6 (ln y) c7)) = w13 at H ⊢
  have kgy_0 : w13.cell? ⟨gy, 0, none⟩ = some (.bool (ng y)) := H.cell m0 0
  have zgy_0 := H.frozen (g := gy) m0 0
  have kgy_1 : w13.cell? ⟨gy, 1, none⟩ = some (.slice A6 (ln y) c7) := H.cell m0 1
  have zgy_1 := H.frozen (g := gy) m0 1
  have kgx_0 : w13.cell? ⟨gx, 0, none⟩ = some (.bool (ng x)) := H.cell m1 0
  have zgx_0 := H.frozen (g := gx) m1 0
  have kgx_1 : w13.cell? ⟨gx, 1, none⟩ = some (.slice A4 (ln x) c5) := H.cell m1 1
  have zgx_1 := H.frozen (g := gx) m1 1
  go_wp2
  go_ret
  exact ⟨rfl, H.below⟩

set_option maxHeartbeats 8000000 in
set_option maxRecDepth 100000 in
theorem divides_0 (a b : ByteArray) (w : World) (x y : Int) (bY : Aside0 (ln y ≤ 10)) (hS : Aside0 (sg y = 0)) (hAB : Aside0 (∀ w, Calls Try.prog 33 #[.string a, .string b] w (RetTwo w x y true))) : Calls Try.prog 5 #[.string a, .string b] w (fun e W' => e = .returned (.bool true) ∧ Below w.heap.size w W') := by
  have hu25 := Try.underlying25
  have H := Sit.start w (fun _ => False)
  go_enter Try.func5, Try.ntmps5
  have st2 := trivial
  have st8 := trivial
  have st10 := trivial
  have st12 := trivial
  go_upto_region 4 with (first
    | (clear st2; go_at_call 22; (with_reducible refine (awake_ok _).mono ?_); rintro e wA ⟨rfl, hb⟩; replace H := H.call hb; clear hb)
    | (clear st8; go_at_call 33; (with_reducible refine (hAB.out _).mono ?_); rintro e w3 ⟨A4, c5, A6, c7, rfl, hr, hr2, hb⟩; replace H := (H.got (fresh_row hr) hb).more ((H.got (fresh_row hr2) hb).row _ m0); clear hr hr2 hb)
    | (clear st10; (with_reducible refine gate_dst (N := 5) rfl ?_); refine box_event ?hg (N := 5) ?hd (cs := #[.bool false, .slice none 0 0]) (t := 25) ?hr ?_; (case hd => rfl); (case hg => rfl); (case hr => first | (go_simp; done) | (go_simp; rfl)); intro gx hg w9 hbox hb; replace H := H.newbox hg hbox hb; clear hg hbox hb; have kgx_0 : w9.cell? ⟨gx, 0, none⟩ = some (.bool false) := H.cell m0 0; have zgx_0 := H.frozen (g := gx) m0 0; have kgx_1 : w9.cell? ⟨gx, 1, none⟩ = some (.slice none 0 0) := H.cell m0 1; have zgx_1 := H.frozen (g := gx) m0 1)
    | (clear st12; (with_reducible refine gate_dst (N := 6) rfl ?_); refine box_event ?hg (N := 6) ?hd (cs := #[.bool false, .slice none 0 0]) (t := 25) ?hr ?_; (case hd => rfl); (case hg => rfl); (case hr => first | (go_simp; done) | (go_simp; rfl)); intro gy hg w11 hbox hb; replace H := H.newbox hg hbox hb; clear hg hbox hb; clear kgx_0 zgx_0 kgx_1 zgx_1; have kgy_0 : w11.cell? ⟨gy, 0, none⟩ = some (.bool false) := H.cell m0 0; have zgy_0 := H.frozen (g := gy) m0 0; have kgy_1 : w11.cell? ⟨gy, 1, none⟩ = some (.slice none 0 0) := H.cell m0 1; have zgy_1 := H.frozen (g := gy) m0 1; have kgx_0 : w11.cell? ⟨gx, 0, none⟩ = some (.bool false) := H.cell m1 0; have zgx_0 := H.frozen (g := gx) m1 0; have kgx_1 : w11.cell? ⟨gx, 1, none⟩ = some (.slice none 0 0) := H.cell m1 1; have zgx_1 := H.frozen (g := gx) m1 1; have ne_gy_gx := H.ne (g := gy) (g' := gx) 0 1 rfl rfl (by decide); have ne_gx_gy := ne_gy_gx.symm))
  (try simp only [Act.put, List.setIfInBounds_toArray, List.set_cons_zero, List.set_cons_succ])
  replace H := ((((H.setn [_] 0 (.bool (ng x)) rfl).setn [_] 1 (.slice A4 (ln x) c5) rfl).setn [] 0 (.bool (ng y)) rfl).setn [] 1 (.slice A6 (ln y) c7) rfl)
  clear kgy_0 zgy_0 kgy_1 zgy_1 kgx_0 zgx_0 kgx_1 zgx_1
  generalize ((((w11.setCell ⟨gx, 0, none⟩ (.bool (ng x))).setCell ⟨gx, 1, none⟩ (.slice A4 (ln x) c5)).setCell ⟨gy, 0, none⟩ (.bool (ng y))).setCell ⟨gy, 1, none⟩ (.slice A6 (ln y) c7)) = w13 at H ⊢
  have kgy_0 : w13.cell? ⟨gy, 0, none⟩ = some (.bool (ng y)) := H.cell m0 0
  have zgy_0 := H.frozen (g := gy) m0 0
  have kgy_1 : w13.cell? ⟨gy, 1, none⟩ = some (.slice A6 (ln y) c7) := H.cell m0 1
  have zgy_1 := H.frozen (g := gy) m0 1
  have kgx_0 : w13.cell? ⟨gx, 0, none⟩ = some (.bool (ng x)) := H.cell m1 0
  have zgx_0 := H.frozen (g := gx) m1 0
  have kgx_1 : w13.cell? ⟨gx, 1, none⟩ = some (.slice A4 (ln x) c5) := H.cell m1 1
  have zgx_1 := H.frozen (g := gx) m1 1
  have st15 := trivial
  go_wp2_with (first
    | (clear st15; go_at_call 25; (with_reducible refine (SignQ _ _ _ (lim bY.out (by decide)) 0 hS.out).mono ?_); rintro e w14 ⟨rfl, hb⟩; replace H := H.call hb; clear hb; clear kgy_0 zgy_0 kgy_1 zgy_1 kgx_0 zgx_0 kgx_1 zgx_1; have kgy_0 : w14.cell? ⟨gy, 0, none⟩ = some (.bool (ng y)) := H.cell m0 0; have zgy_0 := H.frozen (g := gy) m0 0; have kgy_1 : w14.cell? ⟨gy, 1, none⟩ = some (.slice A6 (ln y) c7) := H.cell m0 1; have zgy_1 := H.frozen (g := gy) m0 1; have kgx_0 : w14.cell? ⟨gx, 0, none⟩ = some (.bool (ng x)) := H.cell m1 0; have zgx_0 := H.frozen (g := gx) m1 0; have kgx_1 : w14.cell? ⟨gx, 1, none⟩ = some (.slice A4 (ln x) c5) := H.cell m1 1; have zgx_1 := H.frozen (g := gx) m1 1))
  go_ret
  exact ⟨rfl, H.below⟩

def tb5.T7 : Bool × List (List Nat × List Nat) := (true, [([], []), ([0], [0]), ([1], [1]), ([2], [2]), ([2], [2]), ([3, 4, 2, 2], [2, 3, 4]), ([2], [2]), ([5, 6, 5, 2], [2, 5, 6]), ([2], [2]), ([7, 8, 7, 2], [2, 7, 8]), ([9, 2], [2, 9]), ([2, 10], [2, 10]), ([11, 9], [11]), ([12], [12]), ([13, 12, 12], [12, 13]), ([14, 12], [12, 14]), ([15, 14, 12], [12, 15]), ([16], [16]), ([17, 16, 16], [16, 17]), ([16], [16]), ([19, 18, 16], [16, 19]), ([18, 20, 16], [16, 18, 20]), ([16, 21, 12], [12, 16, 21]), ([12, 22], [12, 22]), ([23, 20], [23]), ([24], [24]), ([25, 24, 24], [24, 25]), ([24], [24]), ([27, 26, 24], [24, 27]), ([26, 28, 28, 24], [24, 26, 28]), ([29, 24], [24, 29]), ([24, 30], [24, 30]), ([31, 29, 0, 1, 2, 3, 4, 5, 6, 7, 8, 9, 10, 11, 12, 13, 14, 15, 16, 17, 18, 19, 20, 21, 22, 23, 24, 25, 26, 27, 28, 29, 30, 31], [31])])
def tb5.B7 : List Nat := [0, 1, 3, 7, 7, 31, 7, 127, 7, 511, 1023, 2047, 4095, 8191, 16383, 32767, 65535, 131071, 262143, 131071, 1048575, 2097151, 4194303, 8388607, 16777215, 33554431, 67108863, 33554431, 268435455, 536870911, 1073741823, 2147483647, 4294967295]
theorem tb5.tab7 : rtab .any (opsOf Try.f5 7) = tb5.T7 := by kernel_rfl
theorem tb5.bits7 : waitsOk tb5.T7.2 tb5.B7 = true := by kernel_rfl

set_option maxHeartbeats 8000000 in
set_option maxRecDepth 100000 in
theorem divides_z (a b : ByteArray) (w : World) (x y : Int) (bx : Aside0 (ln x ≤ 10)) (bY : Aside0 (ln y ≤ 10)) (q r sy sr : Int) (hy0 : Aside0 (y ≠ 0)) (hq : Aside0 (x.tdiv y = q)) (hr' : Aside0 (x.tmod y = r)) (hSy : Aside0 (sg y = sy)) (hs0 : Aside0 (sy ≠ 0)) (hsr : Aside0 (sg r = sr)) (hrz : Aside0 (sr = 0)) (hAB : Aside0 (∀ w, Calls Try.prog 33 #[.string a, .string b] w (RetTwo w x y true))) : Calls Try.prog 5 #[.string a, .string b] w (fun e W' => e = .returned (.bool true) ∧ Below w.heap.size w W') := by
  have d3 : (sy == 0) = false := beq_eq_false_iff_ne.mpr hs0.out
  obtain ⟨p, ep⟩ : ∃ v : Int, q * y = v := ⟨_, rfl⟩
  obtain ⟨s, es⟩ : ∃ v : Int, p + r = v := ⟨_, rfl⟩
  obtain ⟨ar, ear⟩ : ∃ v : Int, ((r.natAbs : Nat) : Int) = v := ⟨_, rfl⟩
  obtain ⟨ay, eay⟩ : ∃ v : Int, ((y.natAbs : Nat) : Int) = v := ⟨_, rfl⟩
  have eq := hq.out
  have er := hr'.out
  have hsum : s = x := by rw [← es, ← ep, ← eq, ← er, Int.mul_comm]; exact Int.mul_tdiv_add_tmod x y
  have bq := Aside0.mk (bTdiv bx.out eq)
  have br := Aside0.mk (bTmod bx.out er)
  have bp := Aside0.mk (bMul bq.out bY.out ep)
  have bs := Aside0.mk (bAdd bp.out br.out es)
  have bar := Aside0.mk (bAbs br.out (show ar.natAbs ≤ r.natAbs by omega))
  have bay := Aside0.mk (bAbs bY.out (show ay.natAbs ≤ y.natAbs by omega))
  have hk1 := Aside0.mk (show cmp3 s x = 0 from cmp3_eq hsum)
  have h1 : r.natAbs < y.natAbs := by rw [← er, Int.natAbs_tmod]; exact Nat.mod_lt _ (by have := hy0.out; omega)
  have hk2 := Aside0.mk (show cmp3 ar ay = -1 from cmp3_lt (by omega))
  have hp := Aside0.mk ep
  have hs := Aside0.mk es
  have har := Aside0.mk ear
  have hay := Aside0.mk eay
  clear ep es ear eay eq er hsum h1
  have d4 : (sr == 0) = true := beq_iff_eq.mpr hrz.out
  have hu25 := Try.underlying25
  have H := Sit.start w (fun _ => False)
  go_enter Try.func5, Try.ntmps5
  have st2 := trivial
  have st8 := trivial
  have st10 := trivial
  have st12 := trivial
  go_upto_region 4 with (first
    | (clear st2; go_at_call 22; (with_reducible refine (awake_ok _).mono ?_); rintro e wA ⟨rfl, hb⟩; replace H := H.call hb; clear hb)
    | (clear st8; go_at_call 33; (with_reducible refine (hAB.out _).mono ?_); rintro e w3 ⟨A4, c5, A6, c7, rfl, hr, hr2, hb⟩; replace H := (H.got (fresh_row hr) hb).more ((H.got (fresh_row hr2) hb).row _ m0); clear hr hr2 hb)
    | (clear st10; (with_reducible refine gate_dst (N := 5) rfl ?_); refine box_event ?hg (N := 5) ?hd (cs := #[.bool false, .slice none 0 0]) (t := 25) ?hr ?_; (case hd => rfl); (case hg => rfl); (case hr => first | (go_simp; done) | (go_simp; rfl)); intro gx hg w9 hbox hb; replace H := H.newbox hg hbox hb; clear hg hbox hb; have kgx_0 : w9.cell? ⟨gx, 0, none⟩ = some (.bool false) := H.cell m0 0; have zgx_0 := H.frozen (g := gx) m0 0; have kgx_1 : w9.cell? ⟨gx, 1, none⟩ = some (.slice none 0 0) := H.cell m0 1; have zgx_1 := H.frozen (g := gx) m0 1)
    | (clear st12; (with_reducible refine gate_dst (N := 6) rfl ?_); refine box_event ?hg (N := 6) ?hd (cs := #[.bool false, .slice none 0 0]) (t := 25) ?hr ?_; (case hd => rfl); (case hg => rfl); (case hr => first | (go_simp; done) | (go_simp; rfl)); intro gy hg w11 hbox hb; replace H := H.newbox hg hbox hb; clear hg hbox hb; clear kgx_0 zgx_0 kgx_1 zgx_1; have kgy_0 : w11.cell? ⟨gy, 0, none⟩ = some (.bool false) := H.cell m0 0; have zgy_0 := H.frozen (g := gy) m0 0; have kgy_1 : w11.cell? ⟨gy, 1, none⟩ = some (.slice none 0 0) := H.cell m0 1; have zgy_1 := H.frozen (g := gy) m0 1; have kgx_0 : w11.cell? ⟨gx, 0, none⟩ = some (.bool false) := H.cell m1 0; have zgx_0 := H.frozen (g := gx) m1 0; have kgx_1 : w11.cell? ⟨gx, 1, none⟩ = some (.slice none 0 0) := H.cell m1 1; have zgx_1 := H.frozen (g := gx) m1 1; have ne_gy_gx := H.ne (g := gy) (g' := gx) 0 1 rfl rfl (by decide); have ne_gx_gy := ne_gy_gx.symm))
  (try simp only [Act.put, List.setIfInBounds_toArray, List.set_cons_zero, List.set_cons_succ])
  replace H := ((((H.setn [_] 0 (.bool (ng x)) rfl).setn [_] 1 (.slice A4 (ln x) c5) rfl).setn [] 0 (.bool (ng y)) rfl).setn [] 1 (.slice A6 (ln y) c7) rfl)
  clear kgy_0 zgy_0 kgy_1 zgy_1 kgx_0 zgx_0 kgx_1 zgx_1
  generalize ((((w11.setCell ⟨gx, 0, none⟩ (.bool (ng x))).setCell ⟨gx, 1, none⟩ (.slice A4 (ln x) c5)).setCell ⟨gy, 0, none⟩ (.bool (ng y))).setCell ⟨gy, 1, none⟩ (.slice A6 (ln y) c7)) = w13 at H ⊢
  have kgy_0 : w13.cell? ⟨gy, 0, none⟩ = some (.bool (ng y)) := H.cell m0 0
  have zgy_0 := H.frozen (g := gy) m0 0
  have kgy_1 : w13.cell? ⟨gy, 1, none⟩ = some (.slice A6 (ln y) c7) := H.cell m0 1
  have zgy_1 := H.frozen (g := gy) m0 1
  have kgx_0 : w13.cell? ⟨gx, 0, none⟩ = some (.bool (ng x)) := H.cell m1 0
  have zgx_0 := H.frozen (g := gx) m1 0
  have kgx_1 : w13.cell? ⟨gx, 1, none⟩ = some (.slice A4 (ln x) c5) := H.cell m1 1
  have zgx_1 := H.frozen (g := gx) m1 1
  have st15 := trivial
  have st21 := trivial
  have st23 := trivial
  have st25 := trivial
  go_upto_region 7 with (first
    | (clear st15; go_at_call 25; (with_reducible refine (SignQ _ _ _ (lim bY.out (by decide)) sy hSy.out).mono ?_); rintro e w14 ⟨rfl, hb⟩; replace H := H.call hb; clear hb; clear kgy_0 zgy_0 kgy_1 zgy_1 kgx_0 zgx_0 kgx_1 zgx_1; have kgy_0 : w14.cell? ⟨gy, 0, none⟩ = some (.bool (ng y)) := H.cell m0 0; have zgy_0 := H.frozen (g := gy) m0 0; have kgy_1 : w14.cell? ⟨gy, 1, none⟩ = some (.slice A6 (ln y) c7) := H.cell m0 1; have zgy_1 := H.frozen (g := gy) m0 1; have kgx_0 : w14.cell? ⟨gx, 0, none⟩ = some (.bool (ng x)) := H.cell m1 0; have zgx_0 := H.frozen (g := gx) m1 0; have kgx_1 : w14.cell? ⟨gx, 1, none⟩ = some (.slice A4 (ln x) c5) := H.cell m1 1; have zgx_1 := H.frozen (g := gx) m1 1)
    | (clear st21; go_at_call 32; (with_reducible refine (DivQ (H.row _ m1) (H.row _ m0) (lim bx.out (by decide)) (lim bY.out (by decide)) hy0.out q r hq.out hr'.out).mono ?_); rintro e w16 ⟨A17, c18, A19, c20, rfl, hr, hr2, hb⟩; replace H := (H.got hr hb).more ((H.got hr2 hb).row _ m0); clear hr hr2 hb; clear kgy_0 zgy_0 kgy_1 zgy_1 kgx_0 zgx_0 kgx_1 zgx_1; have kgy_0 : w16.cell? ⟨gy, 0, none⟩ = some (.bool (ng y)) := H.cell m0 0; have zgy_0 := H.frozen (g := gy) m0 0; have kgy_1 : w16.cell? ⟨gy, 1, none⟩ = some (.slice A6 (ln y) c7) := H.cell m0 1; have zgy_1 := H.frozen (g := gy) m0 1; have kgx_0 : w16.cell? ⟨gx, 0, none⟩ = some (.bool (ng x)) := H.cell m1 0; have zgx_0 := H.frozen (g := gx) m1 0; have kgx_1 : w16.cell? ⟨gx, 1, none⟩ = some (.slice A4 (ln x) c5) := H.cell m1 1; have zgx_1 := H.frozen (g := gx) m1 1)
    | (clear st23; (with_reducible refine gate_dst (N := 8) rfl ?_); refine box_event ?hg (N := 8) ?hd (cs := #[.bool false, .slice none 0 0]) (t := 25) ?hr ?_; (case hd => rfl); (case hg => rfl); (case hr => first | (go_simp; done) | (go_simp; rfl)); intro gq hg w22 hbox hb; replace H := H.newbox hg hbox hb; clear hg hbox hb; clear kgy_0 zgy_0 kgy_1 zgy_1 kgx_0 zgx_0 kgx_1 zgx_1; have kgq_0 : w22.cell? ⟨gq, 0, none⟩ = some (.bool false) := H.cell m0 0; have zgq_0 := H.frozen (g := gq) m0 0; have kgq_1 : w22.cell? ⟨gq, 1, none⟩ = some (.slice none 0 0) := H.cell m0 1; have zgq_1 := H.frozen (g := gq) m0 1; have kgy_0 : w22.cell? ⟨gy, 0, none⟩ = some (.bool (ng y)) := H.cell m1 0; have zgy_0 := H.frozen (g := gy) m1 0; have kgy_1 : w22.cell? ⟨gy, 1, none⟩ = some (.slice A6 (ln y) c7) := H.cell m1 1; have zgy_1 := H.frozen (g := gy) m1 1; have kgx_0 : w22.cell? ⟨gx, 0, none⟩ = some (.bool (ng x)) := H.cell m2 0; have zgx_0 := H.frozen (g := gx) m2 0; have kgx_1 : w22.cell? ⟨gx, 1, none⟩ = some (.slice A4 (ln x) c5) := H.cell m2 1; have zgx_1 := H.frozen (g := gx) m2 1; have ne_gq_gy := H.ne (g := gq) (g' := gy) 0 1 rfl rfl (by decide); have ne_gy_gq := ne_gq_gy.symm; have ne_gq_gx := H.ne (g := gq) (g' := gx) 0 2 rfl rfl (by decide); have ne_gx_gq := ne_gq_gx.symm)
    | (clear st25; (with_reducible refine gate_dst (N := 9) rfl ?_); refine box_event ?hg (N := 9) ?hd (cs := #[.bool false, .slice none 0 0]) (t := 25) ?hr ?_; (case hd => rfl); (case hg => rfl); (case hr => first | (go_simp; done) | (go_simp; rfl)); intro gr hg w24 hbox hb; replace H := H.newbox hg hbox hb; clear hg hbox hb; clear kgq_0 zgq_0 kgq_1 zgq_1 kgy_0 zgy_0 kgy_1 zgy_1 kgx_0 zgx_0 kgx_1 zgx_1; have kgr_0 : w24.cell? ⟨gr, 0, none⟩ = some (.bool false) := H.cell m0 0; have zgr_0 := H.frozen (g := gr) m0 0; have kgr_1 : w24.cell? ⟨gr, 1, none⟩ = some (.slice none 0 0) := H.cell m0 1; have zgr_1 := H.frozen (g := gr) m0 1; have kgq_0 : w24.cell? ⟨gq, 0, none⟩ = some (.bool false) := H.cell m1 0; have zgq_0 := H.frozen (g := gq) m1 0; have kgq_1 : w24.cell? ⟨gq, 1, none⟩ = some (.slice none 0 0) := H.cell m1 1; have zgq_1 := H.frozen (g := gq) m1 1; have kgy_0 : w24.cell? ⟨gy, 0, none⟩ = some (.bool (ng y)) := H.cell m2 0; have zgy_0 := H.frozen (g := gy) m2 0; have kgy_1 : w24.cell? ⟨gy, 1, none⟩ = some (.slice A6 (ln y) c7) := H.cell m2 1; have zgy_1 := H.frozen (g := gy) m2 1; have kgx_0 : w24.cell? ⟨gx, 0, none⟩ = some (.bool (ng x)) := H.cell m3 0; have zgx_0 := H.frozen (g := gx) m3 0; have kgx_1 : w24.cell? ⟨gx, 1, none⟩ = some (.slice A4 (ln x) c5) := H.cell m3 1; have zgx_1 := H.frozen (g := gx) m3 1; have ne_gr_gq := H.ne (g := gr) (g' := gq) 0 1 rfl rfl (by decide); have ne_gq_gr := ne_gr_gq.symm; have ne_gr_gy := H.ne (g := gr) (g' := gy) 0 2 rfl rfl (by decide); have ne_gy_gr := ne_gr_gy.symm; have ne_gr_gx := H.ne (g := gr) (g' := gx) 0 3 rfl rfl (by decide); have ne_gx_gr := ne_gr_gx.symm))
  (try simp only [Act.put, List.setIfInBounds_toArray, List.set_cons_zero, List.set_cons_succ])
  replace H := ((((H.setn [_] 0 (.bool (ng q)) rfl).setn [_] 1 (.slice A17 (ln q) c18) rfl).setn [] 0 (.bool (ng r)) rfl).setn [] 1 (.slice A19 (ln r) c20) rfl)
  clear kgr_0 zgr_0 kgr_1 zgr_1 kgq_0 zgq_0 kgq_1 zgq_1 kgy_0 zgy_0 kgy_1 zgy_1 kgx_0 zgx_0 kgx_1 zgx_1
  generalize ((((w24.setCell ⟨gq, 0, none⟩ (.bool (ng q))).setCell ⟨gq, 1, none⟩ (.slice A17 (ln q) c18)).setCell ⟨gr, 0, none⟩ (.bool (ng r))).setCell ⟨gr, 1, none⟩ (.slice A19 (ln r) c20)) = w26 at H ⊢
  have kgr_0 : w26.cell? ⟨gr, 0, none⟩ = some (.bool (ng r)) := H.cell m0 0
  have zgr_0 := H.frozen (g := gr) m0 0
  have kgr_1 : w26.cell? ⟨gr, 1, none⟩ = some (.slice A19 (ln r) c20) := H.cell m0 1
  have zgr_1 := H.frozen (g := gr) m0 1
  have kgq_0 : w26.cell? ⟨gq, 0, none⟩ = some (.bool (ng q)) := H.cell m1 0
  have zgq_0 := H.frozen (g := gq) m1 0
  have kgq_1 : w26.cell? ⟨gq, 1, none⟩ = some (.slice A17 (ln q) c18) := H.cell m1 1
  have zgq_1 := H.frozen (g := gq) m1 1
  have kgy_0 : w26.cell? ⟨gy, 0, none⟩ = some (.bool (ng y)) := H.cell m2 0
  have zgy_0 := H.frozen (g := gy) m2 0
  have kgy_1 : w26.cell? ⟨gy, 1, none⟩ = some (.slice A6 (ln y) c7) := H.cell m2 1
  have zgy_1 := H.frozen (g := gy) m2 1
  have kgx_0 : w26.cell? ⟨gx, 0, none⟩ = some (.bool (ng x)) := H.cell m3 0
  have zgx_0 := H.frozen (g := gx) m3 0
  have kgx_1 : w26.cell? ⟨gx, 1, none⟩ = some (.slice A4 (ln x) c5) := H.cell m3 1
  have zgx_1 := H.frozen (g := gx) m3 1
  clear kgr_0 zgr_0 kgr_1 zgr_1 kgq_0 zgq_0 kgq_1 zgq_1 kgy_0 zgy_0 kgy_1 zgy_1 kgx_0 zgx_0 kgx_1 zgx_1
  replace H := H.drew
  refine start_ (n := 33) (S := fun w' => w'.cell? ⟨gq, 0, none⟩ = some (.bool (ng q)) ∧ w'.cell? ⟨gq, 1, none⟩ = some (.slice A17 (ln q) c18) ∧ w'.cell? ⟨gy, 0, none⟩ = some (.bool (ng y)) ∧ w'.cell? ⟨gy, 1, none⟩ = some (.slice A6 (ln y) c7) ∧ w'.cell? ⟨gr, 0, none⟩ = some (.bool (ng r)) ∧ w'.cell? ⟨gr, 1, none⟩ = some (.slice A19 (ln r) c20) ∧ w'.cell? ⟨gx, 0, none⟩ = some (.bool (ng x)) ∧ w'.cell? ⟨gx, 1, none⟩ = some (.slice A4 (ln x) c5)) (ds := []) #[false, false, false, false, false, false, false, false, false, false, false, false, false, false, false, false, false, false, false, false, false, false, false, false, false, false, false, false, false, false, false, false, false] (by kernel_rfl) rfl rfl ⟨H.cell m1 0, H.cell m1 1, H.cell m2 0, H.cell m2 1, H.cell m0 0, H.cell m0 1, H.cell m3 0, H.cell m3 1⟩ (fun hHeld => ?_)
  generalize w26.drew = w27 at H hHeld ⊢
  refine with_tabW tb5.tab7 tb5.bits7 (fun HT_ HW_ => ?_)
  refine pure_ (i := 0) (N := some 34) (v := ?_) (a' := ?_) #[true, false, false, false, false, false, false, false, false, false, false, false, false, false, false, false, false, false, false, false, false, false, false, false, false, false, false, false, false, false, false, false, false] rfl rfl (any_of HT_.out (by kernel_rfl)) (fun _ _ _ h => h) (Or.inl ⟨by rfl, ?_⟩) ?_ ?_
  rotate_left
  · intro w'
    go_simp
    with_reducible rfl
  rotate_left
  · simp only [Act.put, List.setIfInBounds_toArray, List.set_cons_zero, List.set_cons_succ, i64_w, i32_w]
    rfl
  refine pure_ (i := 1) (N := some 35) (v := ?_) (a' := ?_) #[true, true, false, false, false, false, false, false, false, false, false, false, false, false, false, false, false, false, false, false, false, false, false, false, false, false, false, false, false, false, false, false, false] rfl rfl (any_of HT_.out (by kernel_rfl)) (fun _ _ _ h => h) (Or.inl ⟨by rfl, ?_⟩) ?_ ?_
  rotate_left
  · intro w'
    go_simp
    with_reducible rfl
  rotate_left
  · simp only [Act.put, List.setIfInBounds_toArray, List.set_cons_zero, List.set_cons_succ, i64_w, i32_w]
    rfl
  refine pure_ (i := 2) (N := some 36) (v := ?_) (a' := ?_) #[true, true, true, false, false, false, false, false, false, false, false, false, false, false, false, false, false, false, false, false, false, false, false, false, false, false, false, false, false, false, false, false, false] rfl rfl (any_of HT_.out (by kernel_rfl)) (fun _ _ _ h => h) (Or.inl ⟨by rfl, ?_⟩) ?_ ?_
  rotate_left
  · intro w'
    go_simp
    with_reducible rfl
  rotate_left
  · simp only [Act.put, List.setIfInBounds_toArray, List.set_cons_zero, List.set_cons_succ, i64_w, i32_w]
    rfl
  refine take_ (i := 3) (N := some 37) (v := ?_) (a' := ?_) #[true, true, true, true, false, false, false, false, false, false, false, false, false, false, false, false, false, false, false, false, false, false, false, false, false, false, false, false, false, false, false, false, false] rfl rfl (take_ofW HT_.out HW_.out (by kernel_rfl)) (fun _ _ _ h => h) (Or.inl ⟨by rfl, ?_⟩) hHeld ?_ ?_
  rotate_left
  · rintro w' ⟨s0, s1, s2, s3, s4, s5, s6, s7⟩
    go_simp
    with_reducible rfl
  rotate_left
  · simp only [Act.put, List.setIfInBounds_toArray, List.set_cons_zero, List.set_cons_succ, i64_w, i32_w]
    rfl
  refine take_ (i := 4) (N := some 38) (v := ?_) (a' := ?_) #[true, true, true, true, true, false, false, false, false, false, false, false, false, false, false, false, false, false, false, false, false, false, false, false, false, false, false, false, false, false, false, false, false] rfl rfl (take_ofW HT_.out HW_.out (by kernel_rfl)) (fun _ _ _ h => h) (Or.inl ⟨by rfl, ?_⟩) hHeld ?_ ?_
  rotate_left
  · rintro w' ⟨s0, s1, s2, s3, s4, s5, s6, s7⟩
    go_simp
    with_reducible rfl
  rotate_left
  · simp only [Act.put, List.setIfInBounds_toArray, List.set_cons_zero, List.set_cons_succ, i64_w, i32_w]
    rfl
  refine take_ (i := 6) (N := some 40) (v := ?_) (a' := ?_) #[true, true, true, true, true, false, true, false, false, false, false, false, false, false, false, false, false, false, false, false, false, false, false, false, false, false, false, false, false, false, false, false, false] rfl rfl (take_ofW HT_.out HW_.out (by kernel_rfl)) (fun _ _ _ h => h) (Or.inl ⟨by rfl, ?_⟩) hHeld ?_ ?_
  rotate_left
  · rintro w' ⟨s0, s1, s2, s3, s4, s5, s6, s7⟩
    go_simp
    with_reducible rfl
  rotate_left
  · simp only [Act.put, List.setIfInBounds_toArray, List.set_cons_zero, List.set_cons_succ, i64_w, i32_w]
    rfl
  refine take_ (i := 8) (N := some 42) (v := ?_) (a' := ?_) #[true, true, true, true, true, false, true, false, true, false, false, false, false, false, false, false, false, false, false, false, false, false, false, false, false, false, false, false, false, false, false, false, false] rfl rfl (take_ofW HT_.out HW_.out (by kernel_rfl)) (fun _ _ _ h => h) (Or.inl ⟨by rfl, ?_⟩) hHeld ?_ ?_
  rotate_left
  · rintro w' ⟨s0, s1, s2, s3, s4, s5, s6, s7⟩
    go_simp
    with_reducible rfl
  rotate_left
  · simp only [Act.put, List.setIfInBounds_toArray, List.set_cons_zero, List.set_cons_succ, i64_w, i32_w]
    rfl
  refine one_ (i := 5) (N := some 39) #[true, true, true, true, true, true, true, false, true, false, false, false, false, false, false, false, false, false, false, false, false, false, false, false, false, false, false, false, false, false, false, false, false] rfl rfl (one_of HT_.out (by kernel_rfl)) (by decide) (fun K hK => ?_)
  refine goes_ Try.func31 (by kernel_rfl) rfl #[.agg #[.bool (ng q), .slice A17 (ln q) c18], .agg #[.bool (ng y), .slice A6 (ln y) c7]] (by rfl) rfl rfl (by (try simp only [List.map_toArray, List.map_cons, List.map_nil]); first | done | rfl) ?_
  with_reducible refine (MulQ (H.row _ m1) (H.row _ m2) (lim bq.out (by decide)) (lim bY.out (by decide)) p hp.out).mono ?_
  rintro e w28 ⟨A29, c30, rfl, hr, hb⟩
  replace H := H.got hr hb
  clear hr hb
  refine ⟨_, rfl, ?_⟩
  refine hK.out _ _ ⟨H.cell m1 0, H.cell m1 1, H.cell m2 0, H.cell m2 1, H.cell m0 0, H.cell m0 1, H.cell m3 0, H.cell m3 1⟩ (fun hHeld => ?_)
  clear hK K
  refine norm_ (a' := ?_) ?_ ?_
  rotate_left
  · show Act.put _ (some 39) _ = _
    simp only [Act.put, List.setIfInBounds_toArray, List.set_cons_zero, List.set_cons_succ, i64_w, i32_w]
    rfl
  refine one_ (i := 7) (N := some 41) #[true, true, true, true, true, true, true, true, true, false, false, false, false, false, false, false, false, false, false, false, false, false, false, false, false, false, false, false, false, false, false, false, false] rfl rfl (one_of HT_.out (by kernel_rfl)) (by decide) (fun K hK => ?_)
  refine goes_ Try.func28 (by kernel_rfl) rfl #[.agg #[.bool (ng p), .slice A29 (ln p) c30], .agg #[.bool (ng r), .slice A19 (ln r) c20]] (by rfl) rfl rfl (by (try simp only [List.map_toArray, List.map_cons, List.map_nil]); first | done | rfl) ?_
  with_reducible refine (AddQ (H.row _ m0) (H.row _ m1) (lim bp.out (by decide)) (lim br.out (by decide)) s hs.out).mono ?_
  rintro e w31 ⟨A32, c33, rfl, hr, hb⟩
  replace H := H.got hr hb
  clear hr hb
  refine ⟨_, rfl, ?_⟩
  refine hK.out _ _ ⟨H.cell m1 0, H.cell m1 1, H.cell m2 0, H.cell m2 1, H.cell m0 0, H.cell m0 1, H.cell m3 0, H.cell m3 1⟩ (fun hHeld => ?_)
  clear hK K
  refine norm_ (a' := ?_) ?_ ?_
  rotate_left
  · show Act.put _ (some 41) _ = _
    simp only [Act.put, List.setIfInBounds_toArray, List.set_cons_zero, List.set_cons_succ, i64_w, i32_w]
    rfl
  refine one_ (i := 9) (N := some 43) #[true, true, true, true, true, true, true, true, true, true, false, false, false, false, false, false, false, false, false, false, false, false, false, false, false, false, false, false, false, false, false, false, false] rfl rfl (one_of HT_.out (by kernel_rfl)) (by decide) (fun K hK => ?_)
  refine goes_ Try.func34 (by kernel_rfl) rfl #[.agg #[.bool (ng s), .slice A32 (ln s) c33], .agg #[.bool (ng x), .slice A4 (ln x) c5]] (by rfl) rfl rfl (by (try simp only [List.map_toArray, List.map_cons, List.map_nil]); first | done | rfl) ?_
  with_reducible refine (CmpQ (H.row _ m0) (H.row _ m5) (lim bs.out (by decide)) (lim bx.out (by decide)) 0 hk1.out).mono ?_
  rintro e w34 ⟨rfl, hb⟩
  replace H := H.call hb
  clear hb
  refine ⟨_, rfl, ?_⟩
  refine hK.out _ _ ⟨H.cell m1 0, H.cell m1 1, H.cell m2 0, H.cell m2 1, H.cell m0 0, H.cell m0 1, H.cell m3 0, H.cell m3 1⟩ (fun hHeld => ?_)
  clear hK K
  refine norm_ (a' := ?_) ?_ ?_
  rotate_left
  · show Act.put _ (some 43) _ = _
    simp only [Act.put, List.setIfInBounds_toArray, List.set_cons_zero, List.set_cons_succ, i64_w, i32_w]
    rfl
  refine pure_ (i := 10) (N := some 44) (v := ?_) (a' := ?_) #[true, true, true, true, true, true, true, true, true, true, true, false, false, false, false, false, false, false, false, false, false, false, false, false, false, false, false, false, false, false, false, false, false] rfl rfl (any_of HT_.out (by kernel_rfl)) (fun _ _ _ h => h) (Or.inl ⟨by rfl, ?_⟩) ?_ ?_
  rotate_left
  · intro w'
    go_simp
    with_reducible rfl
  rotate_left
  · simp only [Act.put, List.setIfInBounds_toArray, List.set_cons_zero, List.set_cons_succ, i64_w, i32_w]
    rfl
  refine pure_ (i := 11) (N := some 45) (v := ?_) (a' := ?_) #[true, true, true, true, true, true, true, true, true, true, true, true, false, false, false, false, false, false, false, false, false, false, false, false, false, false, false, false, false, false, false, false, false] rfl rfl (any_of HT_.out (by kernel_rfl)) (fun _ _ _ h => h) (Or.inl ⟨by rfl, ?_⟩) ?_ ?_
  rotate_left
  · intro w'
    go_simp
    with_reducible rfl
  rotate_left
  · simp only [Act.put, List.setIfInBounds_toArray, List.set_cons_zero, List.set_cons_succ, i64_w, i32_w]
    rfl
  refine pure_ (i := 12) (N := some 46) (v := ?_) (a' := ?_) #[true, true, true, true, true, true, true, true, true, true, true, true, true, false, false, false, false, false, false, false, false, false, false, false, false, false, false, false, false, false, false, false, false] rfl rfl (any_of HT_.out (by kernel_rfl)) (fun _ _ _ h => h) (Or.inl ⟨by rfl, ?_⟩) ?_ ?_
  rotate_left
  · intro w'
    go_simp
    with_reducible rfl
  rotate_left
  · simp only [Act.put, List.setIfInBounds_toArray, List.set_cons_zero, List.set_cons_succ, i64_w, i32_w]
    rfl
  refine take_ (i := 13) (N := some 47) (v := ?_) (a' := ?_) #[true, true, true, true, true, true, true, true, true, true, true, true, true, true, false, false, false, false, false, false, false, false, false, false, false, false, false, false, false, false, false, false, false] rfl rfl (take_ofW HT_.out HW_.out (by kernel_rfl)) (fun _ _ _ h => h) (Or.inl ⟨by rfl, ?_⟩) hHeld ?_ ?_
  rotate_left
  · rintro w' ⟨s0, s1, s2, s3, s4, s5, s6, s7⟩
    go_simp
    with_reducible rfl
  rotate_left
  · simp only [Act.put, List.setIfInBounds_toArray, List.set_cons_zero, List.set_cons_succ, i64_w, i32_w]
    rfl
  refine one_ (i := 14) (N := some 48) #[true, true, true, true, true, true, true, true, true, true, true, true, true, true, true, false, false, false, false, false, false, false, false, false, false, false, false, false, false, false, false, false, false] rfl rfl (one_of HT_.out (by kernel_rfl)) (by decide) (fun K hK => ?_)
  refine goes_ Try.func25 (by kernel_rfl) rfl #[.agg #[.bool (ng r), .slice A19 (ln r) c20]] (by rfl) rfl rfl (by (try simp only [List.map_toArray, List.map_cons, List.map_nil]); first | done | rfl) ?_
  with_reducible refine (SignQ _ _ _ (lim br.out (by decide)) sr hsr.out).mono ?_
  rintro e w35 ⟨rfl, hb⟩
  replace H := H.call hb
  clear hb
  refine ⟨_, rfl, ?_⟩
  refine hK.out _ _ ⟨H.cell m1 0, H.cell m1 1, H.cell m2 0, H.cell m2 1, H.cell m0 0, H.cell m0 1, H.cell m3 0, H.cell m3 1⟩ (fun hHeld => ?_)
  clear hK K
  refine norm_ (a' := ?_) ?_ ?_
  rotate_left
  · show Act.put _ (some 48) _ = _
    simp only [Act.put, List.setIfInBounds_toArray, List.set_cons_zero, List.set_cons_succ, i64_w, i32_w]
    rfl
  refine pure_ (i := 15) (N := some 49) (v := ?_) (a' := ?_) #[true, true, true, true, true, true, true, true, true, true, true, true, true, true, true, true, false, false, false, false, false, false, false, false, false, false, false, false, false, false, false, false, false] rfl rfl (any_of HT_.out (by kernel_rfl)) (fun _ _ _ h => h) (Or.inl ⟨by rfl, ?_⟩) ?_ ?_
  rotate_left
  · intro w'
    go_simp
    with_reducible rfl
  rotate_left
  · simp only [Act.put, List.setIfInBounds_toArray, List.set_cons_zero, List.set_cons_succ, i64_w, i32_w]
    rfl
  refine pure_ (i := 16) (N := some 50) (v := ?_) (a' := ?_) #[true, true, true, true, true, true, true, true, true, true, true, true, true, true, true, true, true, false, false, false, false, false, false, false, false, false, false, false, false, false, false, false, false] rfl rfl (any_of HT_.out (by kernel_rfl)) (fun _ _ _ h => h) (Or.inl ⟨by rfl, ?_⟩) ?_ ?_
  rotate_left
  · intro w'
    go_simp
    with_reducible rfl
  rotate_left
  · simp only [Act.put, List.setIfInBounds_toArray, List.set_cons_zero, List.set_cons_succ, i64_w, i32_w]
    rfl
  refine pure_ (i := 17) (N := some 51) (v := undef) (a' := ?_) #[true, true, true, true, true, true, true, true, true, true, true, true, true, true, true, true, true, true, false, false, false, false, false, false, false, false, false, false, false, false, false, false, false] rfl rfl (any_of HT_.out (by kernel_rfl)) (fun _ _ _ h => h) (Or.inr ⟨by rfl, rfl⟩) ?_ ?_
  rotate_left
  · simp only [Act.put, List.setIfInBounds_toArray, List.set_cons_zero, List.set_cons_succ, i64_w, i32_w]
    rfl
  refine pure_ (i := 18) (N := some 52) (v := undef) (a' := ?_) #[true, true, true, true, true, true, true, true, true, true, true, true, true, true, true, true, true, true, true, false, false, false, false, false, false, false, false, false, false, false, false, false, false] rfl rfl (any_of HT_.out (by kernel_rfl)) (fun _ _ _ h => h) (Or.inr ⟨by rfl, rfl⟩) ?_ ?_
  rotate_left
  · simp only [Act.put, List.setIfInBounds_toArray, List.set_cons_zero, List.set_cons_succ, i64_w, i32_w]
    rfl
  refine pure_ (i := 19) (N := some 53) (v := undef) (a' := ?_) #[true, true, true, true, true, true, true, true, true, true, true, true, true, true, true, true, true, true, true, true, false, false, false, false, false, false, false, false, false, false, false, false, false] rfl rfl (any_of HT_.out (by kernel_rfl)) (fun _ _ _ h => h) (Or.inr ⟨by rfl, rfl⟩) ?_ ?_
  rotate_left
  · simp only [Act.put, List.setIfInBounds_toArray, List.set_cons_zero, List.set_cons_succ, i64_w, i32_w]
    rfl
  refine pure_ (i := 20) (N := some 54) (v := undef) (a' := ?_) #[true, true, true, true, true, true, true, true, true, true, true, true, true, true, true, true, true, true, true, true, true, false, false, false, false, false, false, false, false, false, false, false, false] rfl rfl (any_of HT_.out (by kernel_rfl)) (fun _ _ _ h => h) (Or.inr ⟨by rfl, rfl⟩) ?_ ?_
  rotate_left
  · simp only [Act.put, List.setIfInBounds_toArray, List.set_cons_zero, List.set_cons_succ, i64_w, i32_w]
    rfl
  refine pure_ (i := 21) (N := some 55) (v := undef) (a' := ?_) #[true, true, true, true, true, true, true, true, true, true, true, true, true, true, true, true, true, true, true, true, true, true, false, false, false, false, false, false, false, false, false, false, false] rfl rfl (any_of HT_.out (by kernel_rfl)) (fun _ _ _ h => h) (Or.inr ⟨by rfl, rfl⟩) ?_ ?_
  rotate_left
  · simp only [Act.put, List.setIfInBounds_toArray, List.set_cons_zero, List.set_cons_succ, i64_w, i32_w]
    rfl
  refine pure_ (i := 22) (N := some 56) (v := ?_) (a' := ?_) #[true, true, true, true, true, true, true, true, true, true, true, true, true, true, true, true, true, true, true, true, true, true, true, false, false, false, false, false, false, false, false, false, false] rfl rfl (any_of HT_.out (by kernel_rfl)) (fun _ _ _ h => h) (Or.inl ⟨by rfl, ?_⟩) ?_ ?_
  rotate_left
  · intro w'
    go_simp
    with_reducible rfl
  rotate_left
  · simp only [Act.put, List.setIfInBounds_toArray, List.set_cons_zero, List.set_cons_succ, i64_w, i32_w]
    rfl
  refine pure_ (i := 23) (N := some 57) (v := ?_) (a' := ?_) #[true, true, true, true, true, true, true, true, true, true, true, true, true, true, true, true, true, true, true, true, true, true, true, true, false, false, false, false, false, false, false, false, false] rfl rfl (any_of HT_.out (by kernel_rfl)) (fun _ _ _ h => h) (Or.inl ⟨by rfl, ?_⟩) ?_ ?_
  rotate_left
  · intro w'
    go_simp
    with_reducible rfl
  rotate_left
  · simp only [Act.put, List.setIfInBounds_toArray, List.set_cons_zero, List.set_cons_succ, i64_w, i32_w]
    rfl
  refine pure_ (i := 24) (N := some 58) (v := ?_) (a' := ?_) #[true, true, true, true, true, true, true, true, true, true, true, true, true, true, true, true, true, true, true, true, true, true, true, true, true, false, false, false, false, false, false, false, false] rfl rfl (any_of HT_.out (by kernel_rfl)) (fun _ _ _ h => h) (Or.inl ⟨by rfl, ?_⟩) ?_ ?_
  rotate_left
  · intro w'
    go_simp
    with_reducible rfl
  rotate_left
  · simp only [Act.put, List.setIfInBounds_toArray, List.set_cons_zero, List.set_cons_succ, i64_w, i32_w]
    rfl
  refine take_ (i := 25) (N := some 59) (v := ?_) (a' := ?_) #[true, true, true, true, true, true, true, true, true, true, true, true, true, true, true, true, true, true, true, true, true, true, true, true, true, true, false, false, false, false, false, false, false] rfl rfl (take_ofW HT_.out HW_.out (by kernel_rfl)) (fun _ _ _ h => h) (Or.inl ⟨by rfl, ?_⟩) hHeld ?_ ?_
  rotate_left
  · rintro w' ⟨s0, s1, s2, s3, s4, s5, s6, s7⟩
    go_simp
    with_reducible rfl
  rotate_left
  · simp only [Act.put, List.setIfInBounds_toArray, List.set_cons_zero, List.set_cons_succ, i64_w, i32_w]
    rfl
  refine take_ (i := 27) (N := some 61) (v := ?_) (a' := ?_) #[true, true, true, true, true, true, true, true, true, true, true, true, true, true, true, true, true, true, true, true, true, true, true, true, true, true, false, true, false, false, false, false, false] rfl rfl (take_ofW HT_.out HW_.out (by kernel_rfl)) (fun _ _ _ h => h) (Or.inl ⟨by rfl, ?_⟩) hHeld ?_ ?_
  rotate_left
  · rintro w' ⟨s0, s1, s2, s3, s4, s5, s6, s7⟩
    go_simp
    with_reducible rfl
  rotate_left
  · simp only [Act.put, List.setIfInBounds_toArray, List.set_cons_zero, List.set_cons_succ, i64_w, i32_w]
    rfl
  refine one_ (i := 26) (N := some 60) #[true, true, true, true, true, true, true, true, true, true, true, true, true, true, true, true, true, true, true, true, true, true, true, true, true, true, true, true, false, false, false, false, false] rfl rfl (one_of HT_.out (by kernel_rfl)) (by decide) (fun K hK => ?_)
  refine goes_ Try.func35 (by kernel_rfl) rfl #[.agg #[.bool (ng r), .slice A19 (ln r) c20]] (by rfl) rfl rfl (by (try simp only [List.map_toArray, List.map_cons, List.map_nil]); first | done | rfl) ?_
  with_reducible refine (AbsQ (H.row _ m2) (lim br.out (by decide)) ar har.out).mono ?_
  rintro e w36 ⟨A37, c38, rfl, hr, hb⟩
  replace H := H.got hr hb
  clear hr hb
  refine ⟨_, rfl, ?_⟩
  refine hK.out _ _ ⟨H.cell m1 0, H.cell m1 1, H.cell m2 0, H.cell m2 1, H.cell m0 0, H.cell m0 1, H.cell m3 0, H.cell m3 1⟩ (fun hHeld => ?_)
  clear hK K
  refine norm_ (a' := ?_) ?_ ?_
  rotate_left
  · show Act.put _ (some 60) _ = _
    simp only [Act.put, List.setIfInBounds_toArray, List.set_cons_zero, List.set_cons_succ, i64_w, i32_w]
    rfl
  refine one_ (i := 28) (N := some 62) #[true, true, true, true, true, true, true, true, true, true, true, true, true, true, true, true, true, true, true, true, true, true, true, true, true, true, true, true, true, false, false, false, false] rfl rfl (one_of HT_.out (by kernel_rfl)) (by decide) (fun K hK => ?_)
  refine goes_ Try.func35 (by kernel_rfl) rfl #[.agg #[.bool (ng y), .slice A6 (ln y) c7]] (by rfl) rfl rfl (by (try simp only [List.map_toArray, List.map_cons, List.map_nil]); first | done | rfl) ?_
  with_reducible refine (AbsQ (H.row _ m5) (lim bY.out (by decide)) ay hay.out).mono ?_
  rintro e w39 ⟨A40, c41, rfl, hr, hb⟩
  replace H := H.got hr hb
  clear hr hb
  refine ⟨_, rfl, ?_⟩
  refine hK.out _ _ ⟨H.cell m1 0, H.cell m1 1, H.cell m2 0, H.cell m2 1, H.cell m0 0, H.cell m0 1, H.cell m3 0, H.cell m3 1⟩ (fun hHeld => ?_)
  clear hK K
  refine norm_ (a' := ?_) ?_ ?_
  rotate_left
  · show Act.put _ (some 62) _ = _
    simp only [Act.put, List.setIfInBounds_toArray, List.set_cons_zero, List.set_cons_succ, i64_w, i32_w]
    rfl
  refine one_ (i := 29) (N := some 63) #[true, true, true, true, true, true, true, true, true, true, true, true, true, true, true, true, true, true, true, true, true, true, true, true, true, true, true, true, true, true, false, false, false] rfl rfl (one_of HT_.out (by kernel_rfl)) (by decide) (fun K hK => ?_)
  refine goes_ Try.func34 (by kernel_rfl) rfl #[.agg #[.bool (ng ar), .slice A37 (ln ar) c38], .agg #[.bool (ng ay), .slice A40 (ln ay) c41]] (by rfl) rfl rfl (by (try simp only [List.map_toArray, List.map_cons, List.map_nil]); first | done | rfl) ?_
  with_reducible refine (CmpQ (H.row _ m1) (H.row _ m0) (lim bar.out (by decide)) (lim bay.out (by decide)) (-1) hk2.out).mono ?_
  rintro e w42 ⟨rfl, hb⟩
  replace H := H.call hb
  clear hb
  refine ⟨_, rfl, ?_⟩
  refine hK.out _ _ ⟨H.cell m1 0, H.cell m1 1, H.cell m2 0, H.cell m2 1, H.cell m0 0, H.cell m0 1, H.cell m3 0, H.cell m3 1⟩ (fun hHeld => ?_)
  clear hK K
  refine norm_ (a' := ?_) ?_ ?_
  rotate_left
  · show Act.put _ (some 63) _ = _
    simp only [Act.put, List.setIfInBounds_toArray, List.set_cons_zero, List.set_cons_succ, i64_w, i32_w]
    rfl
  refine pure_ (i := 30) (N := some 64) (v := ?_) (a' := ?_) #[true, true, true, true, true, true, true, true, true, true, true, true, true, true, true, true, true, true, true, true, true, true, true, true, true, true, true, true, true, true, true, false, false] rfl rfl (any_of HT_.out (by kernel_rfl)) (fun _ _ _ h => h) (Or.inl ⟨by rfl, ?_⟩) ?_ ?_
  rotate_left
  · intro w'
    go_simp
    with_reducible rfl
  rotate_left
  · simp only [Act.put, List.setIfInBounds_toArray, List.set_cons_zero, List.set_cons_succ, i64_w, i32_w]
    rfl
  refine pure_ (i := 31) (N := some 65) (v := ?_) (a' := ?_) #[true, true, true, true, true, true, true, true, true, true, true, true, true, true, true, true, true, true, true, true, true, true, true, true, true, true, true, true, true, true, true, true, false] rfl rfl (any_of HT_.out (by kernel_rfl)) (fun _ _ _ h => h) (Or.inl ⟨by rfl, ?_⟩) ?_ ?_
  rotate_left
  · intro w'
    go_simp
    with_reducible rfl
  rotate_left
  · simp only [Act.put, List.setIfInBounds_toArray, List.set_cons_zero, List.set_cons_succ, i64_w, i32_w]
    rfl
  refine pure_ (i := 32) (N := some 4) (v := ?_) (a' := ?_) #[true, true, true, true, true, true, true, true, true, true, true, true, true, true, true, true, true, true, true, true, true, true, true, true, true, true, true, true, true, true, true, true, true] rfl rfl (any_of HT_.out (by kernel_rfl)) (fun _ _ _ h => h) (Or.inl ⟨by rfl, ?_⟩) ?_ ?_
  rotate_left
  · intro w'
    go_simp
    with_reducible rfl
  rotate_left
  · simp only [Act.put, List.setIfInBounds_toArray, List.set_cons_zero, List.set_cons_succ, i64_w, i32_w]
    rfl
  refine done_ (done_of HT_.out (by kernel_rfl)) ?_
  try clear hHeld
  go_wp2
  go_ret
  exact ⟨rfl, H.below⟩


set_option maxHeartbeats 8000000 in
set_option maxRecDepth 100000 in
theorem divides_t (a b : ByteArray) (w : World) (x y : Int) (bx : Aside0 (ln x ≤ 10)) (bY : Aside0 (ln y ≤ 10)) (q r sy sr : Int) (hy0 : Aside0 (y ≠ 0)) (hq : Aside0 (x.tdiv y = q)) (hr' : Aside0 (x.tmod y = r)) (hSy : Aside0 (sg y = sy)) (hs0 : Aside0 (sy ≠ 0)) (hsr : Aside0 (sg r = sr)) (hrz : Aside0 (sr ≠ 0)) (hsx : Aside0 (sg x = sr)) (hAB : Aside0 (∀ w, Calls Try.prog 33 #[.string a, .string b] w (RetTwo w x y true))) : Calls Try.prog 5 #[.string a, .string b] w (fun e W' => e = .returned (.bool true) ∧ Below w.heap.size w W') := by
  have d3 : (sy == 0) = false := beq_eq_false_iff_ne.mpr hs0.out
  obtain ⟨p, ep⟩ : ∃ v : Int, q * y = v := ⟨_, rfl⟩
  obtain ⟨s, es⟩ : ∃ v : Int, p + r = v := ⟨_, rfl⟩
  obtain ⟨ar, ear⟩ : ∃ v : Int, ((r.natAbs : Nat) : Int) = v := ⟨_, rfl⟩
  obtain ⟨ay, eay⟩ : ∃ v : Int, ((y.natAbs : Nat) : Int) = v := ⟨_, rfl⟩
  have eq := hq.out
  have er := hr'.out
  have hsum : s = x := by rw [← es, ← ep, ← eq, ← er, Int.mul_comm]; exact Int.mul_tdiv_add_tmod x y
  have bq := Aside0.mk (bTdiv bx.out eq)
  have br := Aside0.mk (bTmod bx.out er)
  have bp := Aside0.mk (bMul bq.out bY.out ep)
  have bs := Aside0.mk (bAdd bp.out br.out es)
  have bar := Aside0.mk (bAbs br.out (show ar.natAbs ≤ r.natAbs by omega))
  have bay := Aside0.mk (bAbs bY.out (show ay.natAbs ≤ y.natAbs by omega))
  have hk1 := Aside0.mk (show cmp3 s x = 0 from cmp3_eq hsum)
  have h1 : r.natAbs < y.natAbs := by rw [← er, Int.natAbs_tmod]; exact Nat.mod_lt _ (by have := hy0.out; omega)
  have hk2 := Aside0.mk (show cmp3 ar ay = -1 from cmp3_lt (by omega))
  have hp := Aside0.mk ep
  have hs := Aside0.mk es
  have har := Aside0.mk ear
  have hay := Aside0.mk eay
  clear ep es ear eay eq er hsum h1
  have d4 : (sr == 0) = false := beq_eq_false_iff_ne.mpr hrz.out
  have d5 : (sr == sr) = true := beq_self_eq_true sr
  have hu25 := Try.underlying25
  have H := Sit.start w (fun _ => False)
  go_enter Try.func5, Try.ntmps5
  have st2 := trivial
  have st8 := trivial
  have st10 := trivial
  have st12 := trivial
  go_upto_region 4 with (first
    | (clear st2; go_at_call 22; (with_reducible refine (awake_ok _).mono ?_); rintro e wA ⟨rfl, hb⟩; replace H := H.call hb; clear hb)
    | (clear st8; go_at_call 33; (with_reducible refine (hAB.out _).mono ?_); rintro e w3 ⟨A4, c5, A6, c7, rfl, hr, hr2, hb⟩; replace H := (H.got (fresh_row hr) hb).more ((H.got (fresh_row hr2) hb).row _ m0); clear hr hr2 hb)
    | (clear st10; (with_reducible refine gate_dst (N := 5) rfl ?_); refine box_event ?hg (N := 5) ?hd (cs := #[.bool false, .slice none 0 0]) (t := 25) ?hr ?_; (case hd => rfl); (case hg => rfl); (case hr => first | (go_simp; done) | (go_simp; rfl)); intro gx hg w9 hbox hb; replace H := H.newbox hg hbox hb; clear hg hbox hb; have kgx_0 : w9.cell? ⟨gx, 0, none⟩ = some (.bool false) := H.cell m0 0; have zgx_0 := H.frozen (g := gx) m0 0; have kgx_1 : w9.cell? ⟨gx, 1, none⟩ = some (.slice none 0 0) := H.cell m0 1; have zgx_1 := H.frozen (g := gx) m0 1)
    | (clear st12; (with_reducible refine gate_dst (N := 6) rfl ?_); refine box_event ?hg (N := 6) ?hd (cs := #[.bool false, .slice none 0 0]) (t := 25) ?hr ?_; (case hd => rfl); (case hg => rfl); (case hr => first | (go_simp; done) | (go_simp; rfl)); intro gy hg w11 hbox hb; replace H := H.newbox hg hbox hb; clear hg hbox hb; clear kgx_0 zgx_0 kgx_1 zgx_1; have kgy_0 : w11.cell? ⟨gy, 0, none⟩ = some (.bool false) := H.cell m0 0; have zgy_0 := H.frozen (g := gy) m0 0; have kgy_1 : w11.cell? ⟨gy, 1, none⟩ = some (.slice none 0 0) := H.cell m0 1; have zgy_1 := H.frozen (g := gy) m0 1; have kgx_0 : w11.cell? ⟨gx, 0, none⟩ = some (.bool false) := H.cell m1 0; have zgx_0 := H.frozen (g := gx) m1 0; have kgx_1 : w11.cell? ⟨gx, 1, none⟩ = some (.slice none 0 0) := H.cell m1 1; have zgx_1 := H.frozen (g := gx) m1 1; have ne_gy_gx := H.ne (g := gy) (g' := gx) 0 1 rfl rfl (by decide); have ne_gx_gy := ne_gy_gx.symm))
  (try simp only [Act.put, List.setIfInBounds_toArray, List.set_cons_zero, List.set_cons_succ])
  replace H := ((((H.setn [_] 0 (.bool (ng x)) rfl).setn [_] 1 (.slice A4 (ln x) c5) rfl).setn [] 0 (.bool (ng y)) rfl).setn [] 1 (.slice A6 (ln y) c7) rfl)
  clear kgy_0 zgy_0 kgy_1 zgy_1 kgx_0 zgx_0 kgx_1 zgx_1
  generalize ((((w11.setCell ⟨gx, 0, none⟩ (.bool (ng x))).setCell ⟨gx, 1, none⟩ (.slice A4 (ln x) c5)).setCell ⟨gy, 0, none⟩ (.bool (ng y))).setCell ⟨gy, 1, none⟩ (.slice A6 (ln y) c7)) = w13 at H ⊢
  have kgy_0 : w13.cell? ⟨gy, 0, none⟩ = some (.bool (ng y)) := H.cell m0 0
  have zgy_0 := H.frozen (g := gy) m0 0
  have kgy_1 : w13.cell? ⟨gy, 1, none⟩ = some (.slice A6 (ln y) c7) := H.cell m0 1
  have zgy_1 := H.frozen (g := gy) m0 1
  have kgx_0 : w13.cell? ⟨gx, 0, none⟩ = some (.bool (ng x)) := H.cell m1 0
  have zgx_0 := H.frozen (g := gx) m1 0
  have kgx_1 : w13.cell? ⟨gx, 1, none⟩ = some (.slice A4 (ln x) c5) := H.cell m1 1
  have zgx_1 := H.frozen (g := gx) m1 1
  have st15 := trivial
  have st21 := trivial
  have st23 := trivial
  have st25 := trivial
  go_upto_region 7 with (first
    | (clear st15; go_at_call 25; (with_reducible refine (SignQ _ _ _ (lim bY.out (by decide)) sy hSy.out).mono ?_); rintro e w14 ⟨rfl, hb⟩; replace H := H.call hb; clear hb; clear kgy_0 zgy_0 kgy_1 zgy_1 kgx_0 zgx_0 kgx_1 zgx_1; have kgy_0 : w14.cell? ⟨gy, 0, none⟩ = some (.bool (ng y)) := H.cell m0 0; have zgy_0 := H.frozen (g := gy) m0 0; have kgy_1 : w14.cell? ⟨gy, 1, none⟩ = some (.slice A6 (ln y) c7) := H.cell m0 1; have zgy_1 := H.frozen (g := gy) m0 1; have kgx_0 : w14.cell? ⟨gx, 0, none⟩ = some (.bool (ng x)) := H.cell m1 0; have zgx_0 := H.frozen (g := gx) m1 0; have kgx_1 : w14.cell? ⟨gx, 1, none⟩ = some (.slice A4 (ln x) c5) := H.cell m1 1; have zgx_1 := H.frozen (g := gx) m1 1)
    | (clear st21; go_at_call 32; (with_reducible refine (DivQ (H.row _ m1) (H.row _ m0) (lim bx.out (by decide)) (lim bY.out (by decide)) hy0.out q r hq.out hr'.out).mono ?_); rintro e w16 ⟨A17, c18, A19, c20, rfl, hr, hr2, hb⟩; replace H := (H.got hr hb).more ((H.got hr2 hb).row _ m0); clear hr hr2 hb; clear kgy_0 zgy_0 kgy_1 zgy_1 kgx_0 zgx_0 kgx_1 zgx_1; have kgy_0 : w16.cell? ⟨gy, 0, none⟩ = some (.bool (ng y)) := H.cell m0 0; have zgy_0 := H.frozen (g := gy) m0 0; have kgy_1 : w16.cell? ⟨gy, 1, none⟩ = some (.slice A6 (ln y) c7) := H.cell m0 1; have zgy_1 := H.frozen (g := gy) m0 1; have kgx_0 : w16.cell? ⟨gx, 0, none⟩ = some (.bool (ng x)) := H.cell m1 0; have zgx_0 := H.frozen (g := gx) m1 0; have kgx_1 : w16.cell? ⟨gx, 1, none⟩ = some (.slice A4 (ln x) c5) := H.cell m1 1; have zgx_1 := H.frozen (g := gx) m1 1)
    | (clear st23; (with_reducible refine gate_dst (N := 8) rfl ?_); refine box_event ?hg (N := 8) ?hd (cs := #[.bool false, .slice none 0 0]) (t := 25) ?hr ?_; (case hd => rfl); (case hg => rfl); (case hr => first | (go_simp; done) | (go_simp; rfl)); intro gq hg w22 hbox hb; replace H := H.newbox hg hbox hb; clear hg hbox hb; clear kgy_0 zgy_0 kgy_1 zgy_1 kgx_0 zgx_0 kgx_1 zgx_1; have kgq_0 : w22.cell? ⟨gq, 0, none⟩ = some (.bool false) := H.cell m0 0; have zgq_0 := H.frozen (g := gq) m0 0; have kgq_1 : w22.cell? ⟨gq, 1, none⟩ = some (.slice none 0 0) := H.cell m0 1; have zgq_1 := H.frozen (g := gq) m0 1; have kgy_0 : w22.cell? ⟨gy, 0, none⟩ = some (.bool (ng y)) := H.cell m1 0; have zgy_0 := H.frozen (g := gy) m1 0; have kgy_1 : w22.cell? ⟨gy, 1, none⟩ = some (.slice A6 (ln y) c7) := H.cell m1 1; have zgy_1 := H.frozen (g := gy) m1 1; have kgx_0 : w22.cell? ⟨gx, 0, none⟩ = some (.bool (ng x)) := H.cell m2 0; have zgx_0 := H.frozen (g := gx) m2 0; have kgx_1 : w22.cell? ⟨gx, 1, none⟩ = some (.slice A4 (ln x) c5) := H.cell m2 1; have zgx_1 := H.frozen (g := gx) m2 1; have ne_gq_gy := H.ne (g := gq) (g' := gy) 0 1 rfl rfl (by decide); have ne_gy_gq := ne_gq_gy.symm; have ne_gq_gx := H.ne (g := gq) (g' := gx) 0 2 rfl rfl (by decide); have ne_gx_gq := ne_gq_gx.symm)
    | (clear st25; (with_reducible refine gate_dst (N := 9) rfl ?_); refine box_event ?hg (N := 9) ?hd (cs := #[.bool false, .slice none 0 0]) (t := 25) ?hr ?_; (case hd => rfl); (case hg => rfl); (case hr => first | (go_simp; done) | (go_simp; rfl)); intro gr hg w24 hbox hb; replace H := H.newbox hg hbox hb; clear hg hbox hb; clear kgq_0 zgq_0 kgq_1 zgq_1 kgy_0 zgy_0 kgy_1 zgy_1 kgx_0 zgx_0 kgx_1 zgx_1; have kgr_0 : w24.cell? ⟨gr, 0, none⟩ = some (.bool false) := H.cell m0 0; have zgr_0 := H.frozen (g := gr) m0 0; have kgr_1 : w24.cell? ⟨gr, 1, none⟩ = some (.slice none 0 0) := H.cell m0 1; have zgr_1 := H.frozen (g := gr) m0 1; have kgq_0 : w24.cell? ⟨gq, 0, none⟩ = some (.bool false) := H.cell m1 0; have zgq_0 := H.frozen (g := gq) m1 0; have kgq_1 : w24.cell? ⟨gq, 1, none⟩ = some (.slice none 0 0) := H.cell m1 1; have zgq_1 := H.frozen (g := gq) m1 1; have kgy_0 : w24.cell? ⟨gy, 0, none⟩ = some (.bool (ng y)) := H.cell m2 0; have zgy_0 := H.frozen (g := gy) m2 0; have kgy_1 : w24.cell? ⟨gy, 1, none⟩ = some (.slice A6 (ln y) c7) := H.cell m2 1; have zgy_1 := H.frozen (g := gy) m2 1; have kgx_0 : w24.cell? ⟨gx, 0, none⟩ = some (.bool (ng x)) := H.cell m3 0; have zgx_0 := H.frozen (g := gx) m3 0; have kgx_1 : w24.cell? ⟨gx, 1, none⟩ = some (.slice A4 (ln x) c5) := H.cell m3 1; have zgx_1 := H.frozen (g := gx) m3 1; have ne_gr_gq := H.ne (g := gr) (g' := gq) 0 1 rfl rfl (by decide); have ne_gq_gr := ne_gr_gq.symm; have ne_gr_gy := H.ne (g := gr) (g' := gy) 0 2 rfl rfl (by decide); have ne_gy_gr := ne_gr_gy.symm; have ne_gr_gx := H.ne (g := gr) (g' := gx) 0 3 rfl rfl (by decide); have ne_gx_gr := ne_gr_gx.symm))
  (try simp only [Act.put, List.setIfInBounds_toArray, List.set_cons_zero, List.set_cons_succ])
  replace H := ((((H.setn [_] 0 (.bool (ng q)) rfl).setn [_] 1 (.slice A17 (ln q) c18) rfl).setn [] 0 (.bool (ng r)) rfl).setn [] 1 (.slice A19 (ln r) c20) rfl)
  clear kgr_0 zgr_0 kgr_1 zgr_1 kgq_0 zgq_0 kgq_1 zgq_1 kgy_0 zgy_0 kgy_1 zgy_1 kgx_0 zgx_0 kgx_1 zgx_1
  generalize ((((w24.setCell ⟨gq, 0, none⟩ (.bool (ng q))).setCell ⟨gq, 1, none⟩ (.slice A17 (ln q) c18)).setCell ⟨gr, 0, none⟩ (.bool (ng r))).setCell ⟨gr, 1, none⟩ (.slice A19 (ln r) c20)) = w26 at H ⊢
  have kgr_0 : w26.cell? ⟨gr, 0, none⟩ = some (.bool (ng r)) := H.cell m0 0
  have zgr_0 := H.frozen (g := gr) m0 0
  have kgr_1 : w26.cell? ⟨gr, 1, none⟩ = some (.slice A19 (ln r) c20) := H.cell m0 1
  have zgr_1 := H.frozen (g := gr) m0 1
  have kgq_0 : w26.cell? ⟨gq, 0, none⟩ = some (.bool (ng q)) := H.cell m1 0
  have zgq_0 := H.frozen (g := gq) m1 0
  have kgq_1 : w26.cell? ⟨gq, 1, none⟩ = some (.slice A17 (ln q) c18) := H.cell m1 1
  have zgq_1 := H.frozen (g := gq) m1 1
  have kgy_0 : w26.cell? ⟨gy, 0, none⟩ = some (.bool (ng y)) := H.cell m2 0
  have zgy_0 := H.frozen (g := gy) m2 0
  have kgy_1 : w26.cell? ⟨gy, 1, none⟩ = some (.slice A6 (ln y) c7) := H.cell m2 1
  have zgy_1 := H.frozen (g := gy) m2 1
  have kgx_0 : w26.cell? ⟨gx, 0, none⟩ = some (.bool (ng x)) := H.cell m3 0
  have zgx_0 := H.frozen (g := gx) m3 0
  have kgx_1 : w26.cell? ⟨gx, 1, none⟩ = some (.slice A4 (ln x) c5) := H.cell m3 1
  have zgx_1 := H.frozen (g := gx) m3 1
  clear kgr_0 zgr_0 kgr_1 zgr_1 kgq_0 zgq_0 kgq_1 zgq_1 kgy_0 zgy_0 kgy_1 zgy_1 kgx_0 zgx_0 kgx_1 zgx_1
  replace H := H.drew
  refine start_ (n := 33) (S := fun w' => w'.cell? ⟨gq, 0, none⟩ = some (.bool (ng q)) ∧ w'.cell? ⟨gq, 1, none⟩ = some (.slice A17 (ln q) c18) ∧ w'.cell? ⟨gy, 0, none⟩ = some (.bool (ng y)) ∧ w'.cell? ⟨gy, 1, none⟩ = some (.slice A6 (ln y) c7) ∧ w'.cell? ⟨gr, 0, none⟩ = some (.bool (ng r)) ∧ w'.cell? ⟨gr, 1, none⟩ = some (.slice A19 (ln r) c20) ∧ w'.cell? ⟨gx, 0, none⟩ = some (.bool (ng x)) ∧ w'.cell? ⟨gx, 1, none⟩ = some (.slice A4 (ln x) c5)) (ds := []) #[false, false, false, false, false, false, false, false, false, false, false, false, false, false, false, false, false, false, false, false, false, false, false, false, false, false, false, false, false, false, false, false, false] (by kernel_rfl) rfl rfl ⟨H.cell m1 0, H.cell m1 1, H.cell m2 0, H.cell m2 1, H.cell m0 0, H.cell m0 1, H.cell m3 0, H.cell m3 1⟩ (fun hHeld => ?_)
  generalize w26.drew = w27 at H hHeld ⊢
  refine with_tabW tb5.tab7 tb5.bits7 (fun HT_ HW_ => ?_)
  refine pure_ (i := 0) (N := some 34) (v := ?_) (a' := ?_) #[true, false, false, false, false, false, false, false, false, false, false, false, false, false, false, false, false, false, false, false, false, false, false, false, false, false, false, false, false, false, false, false, false] rfl rfl (any_of HT_.out (by kernel_rfl)) (fun _ _ _ h => h) (Or.inl ⟨by rfl, ?_⟩) ?_ ?_
  rotate_left
  · intro w'
    go_simp
    with_reducible rfl
  rotate_left
  · simp only [Act.put, List.setIfInBounds_toArray, List.set_cons_zero, List.set_cons_succ, i64_w, i32_w]
    rfl
  refine pure_ (i := 1) (N := some 35) (v := ?_) (a' := ?_) #[true, true, false, false, false, false, false, false, false, false, false, false, false, false, false, false, false, false, false, false, false, false, false, false, false, false, false, false, false, false, false, false, false] rfl rfl (any_of HT_.out (by kernel_rfl)) (fun _ _ _ h => h) (Or.inl ⟨by rfl, ?_⟩) ?_ ?_
  rotate_left
  · intro w'
    go_simp
    with_reducible rfl
  rotate_left
  · simp only [Act.put, List.setIfInBounds_toArray, List.set_cons_zero, List.set_cons_succ, i64_w, i32_w]
    rfl
  refine pure_ (i := 2) (N := some 36) (v := ?_) (a' := ?_) #[true, true, true, false, false, false, false, false, false, false, false, false, false, false, false, false, false, false, false, false, false, false, false, false, false, false, false, false, false, false, false, false, false] rfl rfl (any_of HT_.out (by kernel_rfl)) (fun _ _ _ h => h) (Or.inl ⟨by rfl, ?_⟩) ?_ ?_
  rotate_left
  · intro w'
    go_simp
    with_reducible rfl
  rotate_left
  · simp only [Act.put, List.setIfInBounds_toArray, List.set_cons_zero, List.set_cons_succ, i64_w, i32_w]
    rfl
  refine take_ (i := 3) (N := some 37) (v := ?_) (a' := ?_) #[true, true, true, true, false, false, false, false, false, false, false, false, false, false, false, false, false, false, false, false, false, false, false, false, false, false, false, false, false, false, false, false, false] rfl rfl (take_ofW HT_.out HW_.out (by kernel_rfl)) (fun _ _ _ h => h) (Or.inl ⟨by rfl, ?_⟩) hHeld ?_ ?_
  rotate_left
  · rintro w' ⟨s0, s1, s2, s3, s4, s5, s6, s7⟩
    go_simp
    with_reducible rfl
  rotate_left
  · simp only [Act.put, List.setIfInBounds_toArray, List.set_cons_zero, List.set_cons_succ, i64_w, i32_w]
    rfl
  refine take_ (i := 4) (N := some 38) (v := ?_) (a' := ?_) #[true, true, true, true, true, false, false, false, false, false, false, false, false, false, false, false, false, false, false, false, false, false, false, false, false, false, false, false, false, false, false, false, false] rfl rfl (take_ofW HT_.out HW_.out (by kernel_rfl)) (fun _ _ _ h => h) (Or.inl ⟨by rfl, ?_⟩) hHeld ?_ ?_
  rotate_left
  · rintro w' ⟨s0, s1, s2, s3, s4, s5, s6, s7⟩
    go_simp
    with_reducible rfl
  rotate_left
  · simp only [Act.put, List.setIfInBounds_toArray, List.set_cons_zero, List.set_cons_succ, i64_w, i32_w]
    rfl
  refine take_ (i := 6) (N := some 40) (v := ?_) (a' := ?_) #[true, true, true, true, true, false, true, false, false, false, false, false, false, false, false, false, false, false, false, false, false, false, false, false, false, false, false, false, false, false, false, false, false] rfl rfl (take_ofW HT_.out HW_.out (by kernel_rfl)) (fun _ _ _ h => h) (Or.inl ⟨by rfl, ?_⟩) hHeld ?_ ?_
  rotate_left
  · rintro w' ⟨s0, s1, s2, s3, s4, s5, s6, s7⟩
    go_simp
    with_reducible rfl
  rotate_left
  · simp only [Act.put, List.setIfInBounds_toArray, List.set_cons_zero, List.set_cons_succ, i64_w, i32_w]
    rfl
  refine take_ (i := 8) (N := some 42) (v := ?_) (a' := ?_) #[true, true, true, true, true, false, true, false, true, false, false, false, false, false, false, false, false, false, false, false, false, false, false, false, false, false, false, false, false, false, false, false, false] rfl rfl (take_ofW HT_.out HW_.out (by kernel_rfl)) (fun _ _ _ h => h) (Or.inl ⟨by rfl, ?_⟩) hHeld ?_ ?_
  rotate_left
  · rintro w' ⟨s0, s1, s2, s3, s4, s5, s6, s7⟩
    go_simp
    with_reducible rfl
  rotate_left
  · simp only [Act.put, List.setIfInBounds_toArray, List.set_cons_zero, List.set_cons_succ, i64_w, i32_w]
    rfl
  refine one_ (i := 5) (N := some 39) #[true, true, true, true, true, true, true, false, true, false, false, false, false, false, false, false, false, false, false, false, false, false, false, false, false, false, false, false, false, false, false, false, false] rfl rfl (one_of HT_.out (by kernel_rfl)) (by decide) (fun K hK => ?_)
  refine goes_ Try.func31 (by kernel_rfl) rfl #[.agg #[.bool (ng q), .slice A17 (ln q) c18], .agg #[.bool (ng y), .slice A6 (ln y) c7]] (by rfl) rfl rfl (by (try simp only [List.map_toArray, List.map_cons, List.map_nil]); first | done | rfl) ?_
  with_reducible refine (MulQ (H.row _ m1) (H.row _ m2) (lim bq.out (by decide)) (lim bY.out (by decide)) p hp.out).mono ?_
  rintro e w28 ⟨A29, c30, rfl, hr, hb⟩
  replace H := H.got hr hb
  clear hr hb
  refine ⟨_, rfl, ?_⟩
  refine hK.out _ _ ⟨H.cell m1 0, H.cell m1 1, H.cell m2 0, H.cell m2 1, H.cell m0 0, H.cell m0 1, H.cell m3 0, H.cell m3 1⟩ (fun hHeld => ?_)
  clear hK K
  refine norm_ (a' := ?_) ?_ ?_
  rotate_left
  · show Act.put _ (some 39) _ = _
    simp only [Act.put, List.setIfInBounds_toArray, List.set_cons_zero, List.set_cons_succ, i64_w, i32_w]
    rfl
  refine one_ (i := 7) (N := some 41) #[true, true, true, true, true, true, true, true, true, false, false, false, false, false, false, false, false, false, false, false, false, false, false, false, false, false, false, false, false, false, false, false, false] rfl rfl (one_of HT_.out (by kernel_rfl)) (by decide) (fun K hK => ?_)
  refine goes_ Try.func28 (by kernel_rfl) rfl #[.agg #[.bool (ng p), .slice A29 (ln p) c30], .agg #[.bool (ng r), .slice A19 (ln r) c20]] (by rfl) rfl rfl (by (try simp only [List.map_toArray, List.map_cons, List.map_nil]); first | done | rfl) ?_
  with_reducible refine (AddQ (H.row _ m0) (H.row _ m1) (lim bp.out (by decide)) (lim br.out (by decide)) s hs.out).mono ?_
  rintro e w31 ⟨A32, c33, rfl, hr, hb⟩
  replace H := H.got hr hb
  clear hr hb
  refine ⟨_, rfl, ?_⟩
  refine hK.out _ _ ⟨H.cell m1 0, H.cell m1 1, H.cell m2 0, H.cell m2 1, H.cell m0 0, H.cell m0 1, H.cell m3 0, H.cell m3 1⟩ (fun hHeld => ?_)
  clear hK K
  refine norm_ (a' := ?_) ?_ ?_
  rotate_left
  · show Act.put _ (some 41) _ = _
    simp only [Act.put, List.setIfInBounds_toArray, List.set_cons_zero, List.set_cons_succ, i64_w, i32_w]
    rfl
  refine one_ (i := 9) (N := some 43) #[true, true, true, true, true, true, true, true, true, true, false, false, false, false, false, false, false, false, false, false, false, false, false, false, false, false, false, false, false, false, false, false, false] rfl rfl (one_of HT_.out (by kernel_rfl)) (by decide) (fun K hK => ?_)
  refine goes_ Try.func34 (by kernel_rfl) rfl #[.agg #[.bool (ng s), .slice A32 (ln s) c33], .agg #[.bool (ng x), .slice A4 (ln x) c5]] (by rfl) rfl rfl (by (try simp only [List.map_toArray, List.map_cons, List.map_nil]); first | done | rfl) ?_
  with_reducible refine (CmpQ (H.row _ m0) (H.row _ m5) (lim bs.out (by decide)) (lim bx.out (by decide)) 0 hk1.out).mono ?_
  rintro e w34 ⟨rfl, hb⟩
  replace H := H.call hb
  clear hb
  refine ⟨_, rfl, ?_⟩
  refine hK.out _ _ ⟨H.cell m1 0, H.cell m1 1, H.cell m2 0, H.cell m2 1, H.cell m0 0, H.cell m0 1, H.cell m3 0, H.cell m3 1⟩ (fun hHeld => ?_)
  clear hK K
  refine norm_ (a' := ?_) ?_ ?_
  rotate_left
  · show Act.put _ (some 43) _ = _
    simp only [Act.put, List.setIfInBounds_toArray, List.set_cons_zero, List.set_cons_succ, i64_w, i32_w]
    rfl
  refine pure_ (i := 10) (N := some 44) (v := ?_) (a' := ?_) #[true, true, true, true, true, true, true, true, true, true, true, false, false, false, false, false, false, false, false, false, false, false, false, false, false, false, false, false, false, false, false, false, false] rfl rfl (any_of HT_.out (by kernel_rfl)) (fun _ _ _ h => h) (Or.inl ⟨by rfl, ?_⟩) ?_ ?_
  rotate_left
  · intro w'
    go_simp
    with_reducible rfl
  rotate_left
  · simp only [Act.put, List.setIfInBounds_toArray, List.set_cons_zero, List.set_cons_succ, i64_w, i32_w]
    rfl
  refine pure_ (i := 11) (N := some 45) (v := ?_) (a' := ?_) #[true, true, true, true, true, true, true, true, true, true, true, true, false, false, false, false, false, false, false, false, false, false, false, false, false, false, false, false, false, false, false, false, false] rfl rfl (any_of HT_.out (by kernel_rfl)) (fun _ _ _ h => h) (Or.inl ⟨by rfl, ?_⟩) ?_ ?_
  rotate_left
  · intro w'
    go_simp
    with_reducible rfl
  rotate_left
  · simp only [Act.put, List.setIfInBounds_toArray, List.set_cons_zero, List.set_cons_succ, i64_w, i32_w]
    rfl
  refine pure_ (i := 12) (N := some 46) (v := ?_) (a' := ?_) #[true, true, true, true, true, true, true, true, true, true, true, true, true, false, false, false, false, false, false, false, false, false, false, false, false, false, false, false, false, false, false, false, false] rfl rfl (any_of HT_.out (by kernel_rfl)) (fun _ _ _ h => h) (Or.inl ⟨by rfl, ?_⟩) ?_ ?_
  rotate_left
  · intro w'
    go_simp
    with_reducible rfl
  rotate_left
  · simp only [Act.put, List.setIfInBounds_toArray, List.set_cons_zero, List.set_cons_succ, i64_w, i32_w]
    rfl
  refine take_ (i := 13) (N := some 47) (v := ?_) (a' := ?_) #[true, true, true, true, true, true, true, true, true, true, true, true, true, true, false, false, false, false, false, false, false, false, false, false, false, false, false, false, false, false, false, false, false] rfl rfl (take_ofW HT_.out HW_.out (by kernel_rfl)) (fun _ _ _ h => h) (Or.inl ⟨by rfl, ?_⟩) hHeld ?_ ?_
  rotate_left
  · rintro w' ⟨s0, s1, s2, s3, s4, s5, s6, s7⟩
    go_simp
    with_reducible rfl
  rotate_left
  · simp only [Act.put, List.setIfInBounds_toArray, List.set_cons_zero, List.set_cons_succ, i64_w, i32_w]
    rfl
  refine one_ (i := 14) (N := some 48) #[true, true, true, true, true, true, true, true, true, true, true, true, true, true, true, false, false, false, false, false, false, false, false, false, false, false, false, false, false, false, false, false, false] rfl rfl (one_of HT_.out (by kernel_rfl)) (by decide) (fun K hK => ?_)
  refine goes_ Try.func25 (by kernel_rfl) rfl #[.agg #[.bool (ng r), .slice A19 (ln r) c20]] (by rfl) rfl rfl (by (try simp only [List.map_toArray, List.map_cons, List.map_nil]); first | done | rfl) ?_
  with_reducible refine (SignQ _ _ _ (lim br.out (by decide)) sr hsr.out).mono ?_
  rintro e w35 ⟨rfl, hb⟩
  replace H := H.call hb
  clear hb
  refine ⟨_, rfl, ?_⟩
  refine hK.out _ _ ⟨H.cell m1 0, H.cell m1 1, H.cell m2 0, H.cell m2 1, H.cell m0 0, H.cell m0 1, H.cell m3 0, H.cell m3 1⟩ (fun hHeld => ?_)
  clear hK K
  refine norm_ (a' := ?_) ?_ ?_
  rotate_left
  · show Act.put _ (some 48) _ = _
    simp only [Act.put, List.setIfInBounds_toArray, List.set_cons_zero, List.set_cons_succ, i64_w, i32_w]
    rfl
  refine pure_ (i := 15) (N := some 49) (v := ?_) (a' := ?_) #[true, true, true, true, true, true, true, true, true, true, true, true, true, true, true, true, false, false, false, false, false, false, false, false, false, false, false, false, false, false, false, false, false] rfl rfl (any_of HT_.out (by kernel_rfl)) (fun _ _ _ h => h) (Or.inl ⟨by rfl, ?_⟩) ?_ ?_
  rotate_left
  · intro w'
    go_simp
    with_reducible rfl
  rotate_left
  · simp only [Act.put, List.setIfInBounds_toArray, List.set_cons_zero, List.set_cons_succ, i64_w, i32_w]
    rfl
  refine pure_ (i := 16) (N := some 50) (v := ?_) (a' := ?_) #[true, true, true, true, true, true, true, true, true, true, true, true, true, true, true, true, true, false, false, false, false, false, false, false, false, false, false, false, false, false, false, false, false] rfl rfl (any_of HT_.out (by kernel_rfl)) (fun _ _ _ h => h) (Or.inl ⟨by rfl, ?_⟩) ?_ ?_
  rotate_left
  · intro w'
    go_simp
    with_reducible rfl
  rotate_left
  · simp only [Act.put, List.setIfInBounds_toArray, List.set_cons_zero, List.set_cons_succ, i64_w, i32_w]
    rfl
  refine take_ (i := 17) (N := some 51) (v := ?_) (a' := ?_) #[true, true, true, true, true, true, true, true, true, true, true, true, true, true, true, true, true, true, false, false, false, false, false, false, false, false, false, false, false, false, false, false, false] rfl rfl (take_ofW HT_.out HW_.out (by kernel_rfl)) (fun _ _ _ h => h) (Or.inl ⟨by rfl, ?_⟩) hHeld ?_ ?_
  rotate_left
  · rintro w' ⟨s0, s1, s2, s3, s4, s5, s6, s7⟩
    go_simp
    with_reducible rfl
  rotate_left
  · simp only [Act.put, List.setIfInBounds_toArray, List.set_cons_zero, List.set_cons_succ, i64_w, i32_w]
    rfl
  refine take_ (i := 19) (N := some 53) (v := ?_) (a' := ?_) #[true, true, true, true, true, true, true, true, true, true, true, true, true, true, true, true, true, true, false, true, false, false, false, false, false, false, false, false, false, false, false, false, false] rfl rfl (take_ofW HT_.out HW_.out (by kernel_rfl)) (fun _ _ _ h => h) (Or.inl ⟨by rfl, ?_⟩) hHeld ?_ ?_
  rotate_left
  · rintro w' ⟨s0, s1, s2, s3, s4, s5, s6, s7⟩
    go_simp
    with_reducible rfl
  rotate_left
  · simp only [Act.put, List.setIfInBounds_toArray, List.set_cons_zero, List.set_cons_succ, i64_w, i32_w]
    rfl
  refine one_ (i := 18) (N := some 52) #[true, true, true, true, true, true, true, true, true, true, true, true, true, true, true, true, true, true, true, true, false, false, false, false, false, false, false, false, false, false, false, false, false] rfl rfl (one_of HT_.out (by kernel_rfl)) (by decide) (fun K hK => ?_)
  refine goes_ Try.func25 (by kernel_rfl) rfl #[.agg #[.bool (ng r), .slice A19 (ln r) c20]] (by rfl) rfl rfl (by (try simp only [List.map_toArray, List.map_cons, List.map_nil]); first | done | rfl) ?_
  with_reducible refine (SignQ _ _ _ (lim br.out (by decide)) sr hsr.out).mono ?_
  rintro e w36 ⟨rfl, hb⟩
  replace H := H.call hb
  clear hb
  refine ⟨_, rfl, ?_⟩
  refine hK.out _ _ ⟨H.cell m1 0, H.cell m1 1, H.cell m2 0, H.cell m2 1, H.cell m0 0, H.cell m0 1, H.cell m3 0, H.cell m3 1⟩ (fun hHeld => ?_)
  clear hK K
  refine norm_ (a' := ?_) ?_ ?_
  rotate_left
  · show Act.put _ (some 52) _ = _
    simp only [Act.put, List.setIfInBounds_toArray, List.set_cons_zero, List.set_cons_succ, i64_w, i32_w]
    rfl
  refine one_ (i := 20) (N := some 54) #[true, true, true, true, true, true, true, true, true, true, true, true, true, true, true, true, true, true, true, true, true, false, false, false, false, false, false, false, false, false, false, false, false] rfl rfl (one_of HT_.out (by kernel_rfl)) (by decide) (fun K hK => ?_)
  refine goes_ Try.func25 (by kernel_rfl) rfl #[.agg #[.bool (ng x), .slice A4 (ln x) c5]] (by rfl) rfl rfl (by (try simp only [List.map_toArray, List.map_cons, List.map_nil]); first | done | rfl) ?_
  with_reducible refine (SignQ _ _ _ (lim bx.out (by decide)) sr hsx.out).mono ?_
  rintro e w37 ⟨rfl, hb⟩
  replace H := H.call hb
  clear hb
  refine ⟨_, rfl, ?_⟩
  refine hK.out _ _ ⟨H.cell m1 0, H.cell m1 1, H.cell m2 0, H.cell m2 1, H.cell m0 0, H.cell m0 1, H.cell m3 0, H.cell m3 1⟩ (fun hHeld => ?_)
  clear hK K
  refine norm_ (a' := ?_) ?_ ?_
  rotate_left
  · show Act.put _ (some 54) _ = _
    simp only [Act.put, List.setIfInBounds_toArray, List.set_cons_zero, List.set_cons_succ, i64_w, i32_w]
    rfl
  refine pure_ (i := 21) (N := some 55) (v := ?_) (a' := ?_) #[true, true, true, true, true, true, true, true, true, true, true, true, true, true, true, true, true, true, true, true, true, true, false, false, false, false, false, false, false, false, false, false, false] rfl rfl (any_of HT_.out (by kernel_rfl)) (fun _ _ _ h => h) (Or.inl ⟨by rfl, ?_⟩) ?_ ?_
  rotate_left
  · intro w'
    go_simp
    with_reducible rfl
  rotate_left
  · simp only [Act.put, List.setIfInBounds_toArray, List.set_cons_zero, List.set_cons_succ, i64_w, i32_w]
    rfl
  refine pure_ (i := 22) (N := some 56) (v := ?_) (a' := ?_) #[true, true, true, true, true, true, true, true, true, true, true, true, true, true, true, true, true, true, true, true, true, true, true, false, false, false, false, false, false, false, false, false, false] rfl rfl (any_of HT_.out (by kernel_rfl)) (fun _ _ _ h => h) (Or.inl ⟨by rfl, ?_⟩) ?_ ?_
  rotate_left
  · intro w'
    go_simp
    with_reducible rfl
  rotate_left
  · simp only [Act.put, List.setIfInBounds_toArray, List.set_cons_zero, List.set_cons_succ, i64_w, i32_w]
    rfl
  refine pure_ (i := 23) (N := some 57) (v := ?_) (a' := ?_) #[true, true, true, true, true, true, true, true, true, true, true, true, true, true, true, true, true, true, true, true, true, true, true, true, false, false, false, false, false, false, false, false, false] rfl rfl (any_of HT_.out (by kernel_rfl)) (fun _ _ _ h => h) (Or.inl ⟨by rfl, ?_⟩) ?_ ?_
  rotate_left
  · intro w'
    go_simp
    with_reducible rfl
  rotate_left
  · simp only [Act.put, List.setIfInBounds_toArray, List.set_cons_zero, List.set_cons_succ, i64_w, i32_w]
    rfl
  refine pure_ (i := 24) (N := some 58) (v := ?_) (a' := ?_) #[true, true, true, true, true, true, true, true, true, true, true, true, true, true, true, true, true, true, true, true, true, true, true, true, true, false, false, false, false, false, false, false, false] rfl rfl (any_of HT_.out (by kernel_rfl)) (fun _ _ _ h => h) (Or.inl ⟨by rfl, ?_⟩) ?_ ?_
  rotate_left
  · intro w'
    go_simp
    with_reducible rfl
  rotate_left
  · simp only [Act.put, List.setIfInBounds_toArray, List.set_cons_zero, List.set_cons_succ, i64_w, i32_w]
    rfl
  refine take_ (i := 25) (N := some 59) (v := ?_) (a' := ?_) #[true, true, true, true, true, true, true, true, true, true, true, true, true, true, true, true, true, true, true, true, true, true, true, true, true, true, false, false, false, false, false, false, false] rfl rfl (take_ofW HT_.out HW_.out (by kernel_rfl)) (fun _ _ _ h => h) (Or.inl ⟨by rfl, ?_⟩) hHeld ?_ ?_
  rotate_left
  · rintro w' ⟨s0, s1, s2, s3, s4, s5, s6, s7⟩
    go_simp
    with_reducible rfl
  rotate_left
  · simp only [Act.put, List.setIfInBounds_toArray, List.set_cons_zero, List.set_cons_succ, i64_w, i32_w]
    rfl
  refine take_ (i := 27) (N := some 61) (v := ?_) (a' := ?_) #[true, true, true, true, true, true, true, true, true, true, true, true, true, true, true, true, true, true, true, true, true, true, true, true, true, true, false, true, false, false, false, false, false] rfl rfl (take_ofW HT_.out HW_.out (by kernel_rfl)) (fun _ _ _ h => h) (Or.inl ⟨by rfl, ?_⟩) hHeld ?_ ?_
  rotate_left
  · rintro w' ⟨s0, s1, s2, s3, s4, s5, s6, s7⟩
    go_simp
    with_reducible rfl
  rotate_left
  · simp only [Act.put, List.setIfInBounds_toArray, List.set_cons_zero, List.set_cons_succ, i64_w, i32_w]
    rfl
  refine one_ (i := 26) (N := some 60) #[true, true, true, true, true, true, true, true, true, true, true, true, true, true, true, true, true, true, true, true, true, true, true, true, true, true, true, true, false, false, false, false, false] rfl rfl (one_of HT_.out (by kernel_rfl)) (by decide) (fun K hK => ?_)
  refine goes_ Try.func35 (by kernel_rfl) rfl #[.agg #[.bool (ng r), .slice A19 (ln r) c20]] (by rfl) rfl rfl (by (try simp only [List.map_toArray, List.map_cons, List.map_nil]); first | done | rfl) ?_
  with_reducible refine (AbsQ (H.row _ m2) (lim br.out (by decide)) ar har.out).mono ?_
  rintro e w38 ⟨A39, c40, rfl, hr, hb⟩
  replace H := H.got hr hb
  clear hr hb
  refine ⟨_, rfl, ?_⟩
  refine hK.out _ _ ⟨H.cell m1 0, H.cell m1 1, H.cell m2 0, H.cell m2 1, H.cell m0 0, H.cell m0 1, H.cell m3 0, H.cell m3 1⟩ (fun hHeld => ?_)
  clear hK K
  refine norm_ (a' := ?_) ?_ ?_
  rotate_left
  · show Act.put _ (some 60) _ = _
    simp only [Act.put, List.setIfInBounds_toArray, List.set_cons_zero, List.set_cons_succ, i64_w, i32_w]
    rfl
  refine one_ (i := 28) (N := some 62) #[true, true, true, true, true, true, true, true, true, true, true, true, true, true, true, true, true, true, true, true, true, true, true, true, true, true, true, true, true, false, false, false, false] rfl rfl (one_of HT_.out (by kernel_rfl)) (by decide) (fun K hK => ?_)
  refine goes_ Try.func35 (by kernel_rfl) rfl #[.agg #[.bool (ng y), .slice A6 (ln y) c7]] (by rfl) rfl rfl (by (try simp only [List.map_toArray, List.map_cons, List.map_nil]); first | done | rfl) ?_
  with_reducible refine (AbsQ (H.row _ m5) (lim bY.out (by decide)) ay hay.out).mono ?_
  rintro e w41 ⟨A42, c43, rfl, hr, hb⟩
  replace H := H.got hr hb
  clear hr hb
  refine ⟨_, rfl, ?_⟩
  refine hK.out _ _ ⟨H.cell m1 0, H.cell m1 1, H.cell m2 0, H.cell m2 1, H.cell m0 0, H.cell m0 1, H.cell m3 0, H.cell m3 1⟩ (fun hHeld => ?_)
  clear hK K
  refine norm_ (a' := ?_) ?_ ?_
  rotate_left
  · show Act.put _ (some 62) _ = _
    simp only [Act.put, List.setIfInBounds_toArray, List.set_cons_zero, List.set_cons_succ, i64_w, i32_w]
    rfl
  refine one_ (i := 29) (N := some 63) #[true, true, true, true, true, true, true, true, true, true, true, true, true, true, true, true, true, true, true, true, true, true, true, true, true, true, true, true, true, true, false, false, false] rfl rfl (one_of HT_.out (by kernel_rfl)) (by decide) (fun K hK => ?_)
  refine goes_ Try.func34 (by kernel_rfl) rfl #[.agg #[.bool (ng ar), .slice A39 (ln ar) c40], .agg #[.bool (ng ay), .slice A42 (ln ay) c43]] (by rfl) rfl rfl (by (try simp only [List.map_toArray, List.map_cons, List.map_nil]); first | done | rfl) ?_
  with_reducible refine (CmpQ (H.row _ m1) (H.row _ m0) (lim bar.out (by decide)) (lim bay.out (by decide)) (-1) hk2.out).mono ?_
  rintro e w44 ⟨rfl, hb⟩
  replace H := H.call hb
  clear hb
  refine ⟨_, rfl, ?_⟩
  refine hK.out _ _ ⟨H.cell m1 0, H.cell m1 1, H.cell m2 0, H.cell m2 1, H.cell m0 0, H.cell m0 1, H.cell m3 0, H.cell m3 1⟩ (fun hHeld => ?_)
  clear hK K
  refine norm_ (a' := ?_) ?_ ?_
  rotate_left
  · show Act.put _ (some 63) _ = _
    simp only [Act.put, List.setIfInBounds_toArray, List.set_cons_zero, List.set_cons_succ, i64_w, i32_w]
    rfl
  refine pure_ (i := 30) (N := some 64) (v := ?_) (a' := ?_) #[true, true, true, true, true, true, true, true, true, true, true, true, true, true, true, true, true, true, true, true, true, true, true, true, true, true, true, true, true, true, true, false, false] rfl rfl (any_of HT_.out (by kernel_rfl)) (fun _ _ _ h => h) (Or.inl ⟨by rfl, ?_⟩) ?_ ?_
  rotate_left
  · intro w'
    go_simp
    with_reducible rfl
  rotate_left
  · simp only [Act.put, List.setIfInBounds_toArray, List.set_cons_zero, List.set_cons_succ, i64_w, i32_w]
    rfl
  refine pure_ (i := 31) (N := some 65) (v := ?_) (a' := ?_) #[true, true, true, true, true, true, true, true, true, true, true, true, true, true, true, true, true, true, true, true, true, true, true, true, true, true, true, true, true, true, true, true, false] rfl rfl (any_of HT_.out (by kernel_rfl)) (fun _ _ _ h => h) (Or.inl ⟨by rfl, ?_⟩) ?_ ?_
  rotate_left
  · intro w'
    go_simp
    with_reducible rfl
  rotate_left
  · simp only [Act.put, List.setIfInBounds_toArray, List.set_cons_zero, List.set_cons_succ, i64_w, i32_w]
    rfl
  refine pure_ (i := 32) (N := some 4) (v := ?_) (a' := ?_) #[true, true, true, true, true, true, true, true, true, true, true, true, true, true, true, true, true, true, true, true, true, true, true, true, true, true, true, true, true, true, true, true, true] rfl rfl (any_of HT_.out (by kernel_rfl)) (fun _ _ _ h => h) (Or.inl ⟨by rfl, ?_⟩) ?_ ?_
  rotate_left
  · intro w'
    go_simp
    with_reducible rfl
  rotate_left
  · simp only [Act.put, List.setIfInBounds_toArray, List.set_cons_zero, List.set_cons_succ, i64_w, i32_w]
    rfl
  refine done_ (done_of HT_.out (by kernel_rfl)) ?_
  try clear hHeld
  go_wp2
  go_ret
  exact ⟨rfl, H.below⟩

theorem sg_ne {m : Int} (h : m ≠ 0) : sg m ≠ 0 := by unfold sg; repeat' split <;> omega
theorem sg_z {m : Int} (h : m = 0) : sg m = 0 := by rw [h]; rfl
theorem divides_walk (a b : ByteArray) (w : World) : Calls Try.prog 5 #[.string a, .string b] w (fun e W' => e = .returned (.bool true) ∧ Below w.heap.size w W') := by
  by_cases h : ∃ x y, Both a b x y
  · obtain ⟨x, y, h⟩ := h
    obtain ⟨s1, s2⟩ := both_small h
    by_cases h0 : y = 0
    · exact divides_0 a b w x y ⟨s2⟩ ⟨sg_z h0⟩ ⟨two_ok h⟩
    · by_cases hr : x.tmod y = 0
      · exact divides_z a b w x y ⟨s1⟩ ⟨s2⟩ _ _ _ _ ⟨h0⟩ ⟨rfl⟩ ⟨rfl⟩ ⟨rfl⟩ ⟨sg_ne h0⟩ ⟨rfl⟩ ⟨sg_z hr⟩ ⟨two_ok h⟩
      · exact divides_t a b w x y ⟨s1⟩ ⟨s2⟩ _ _ _ _ ⟨h0⟩ ⟨rfl⟩ ⟨rfl⟩ ⟨rfl⟩ ⟨sg_ne h0⟩ ⟨rfl⟩ ⟨sg_ne hr⟩ ⟨(sg_tmod rfl hr).symm⟩ ⟨two_ok h⟩
  · obtain ⟨x, y, h⟩ := two_not a b h
    exact divides_f a b w x y ⟨h⟩

end Go.Proofs.Ytdkapdgbfejgdaa
