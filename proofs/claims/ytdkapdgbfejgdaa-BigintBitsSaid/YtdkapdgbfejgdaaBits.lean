/- The walk of the law BigintBits. -/
import Derived.Test.YtdkapdgbfejgdaaTw
namespace Go.Proofs.Ytdkapdgbfejgdaa
open Go.RowKit Go.Proofs.YtdkapdgbfejgdaaW.PrintWords Go.Proofs.YtdkapdgbfejgdaaW.PrintLast Go.Proofs.YtdkapdgbfejgdaaW.PrintMore
set_option linter.unusedSimpArgs false
set_option linter.unusedVariables false

theorem p32 (i K : Nat) (h : i < 32 * K) : 2 ^ i < 4294967296 ^ K := by
  have e : (2 ^ 32) ^ K = 2 ^ (32 * K) := (Nat.pow_mul ..).symm
  show 2 ^ i < (2 ^ 32) ^ K
  rw [e]; exact Nat.pow_lt_pow_right (by omega) h
theorem q32 (i K : Nat) (h : 2 ^ i < 4294967296 ^ K) : i < 32 * K := by
  have e : (2 ^ 32) ^ K = 2 ^ (32 * K) := (Nat.pow_mul ..).symm
  have h' : 2 ^ i < (2 ^ 32) ^ K := h
  rw [e] at h'
  exact (Nat.pow_lt_pow_iff_right (by omega)).mp h'
theorem blen_small {x : Int} (h : ln x ≤ 10) : blen x.natAbs ≤ 320 := by
  by_cases h0 : x.natAbs = 0
  · rw [h0]; exact Nat.zero_le _
  · obtain ⟨h1, h2, h3⟩ := blen_bounds h0
    have h4 := Nat.lt_of_lt_of_le (ln_lt x) (pow_le_nat h)
    have := q32 _ _ (Nat.lt_of_le_of_lt h2 h4)
    omega
theorem ln_pow2 {i : Nat} (h : i ≤ 400) : ln ((2 : Int) ^ i) ≤ 13 := by
  refine ln_bound _ _ ?_
  have e : ((2 : Int) ^ i).natAbs = 2 ^ i := by rw [Int.natAbs_pow]; rfl
  rw [e]
  exact p32 i 13 (by omega)

set_option maxHeartbeats 8000000 in
set_option maxRecDepth 100000 in
theorem bits_f (a : ByteArray) (w : World) (x u : Int) (hAB : Aside0 (∀ w, Calls Try.prog 33 #[.string a, .string ⟨#[48]⟩] w (RetTwo w x u false))) : Calls Try.prog 6 #[.string a] w (fun e W' => e = .returned (.bool true) ∧ Below w.heap.size w W') := by
  have hu25 := Try.underlying25
  have H := Sit.start w (fun _ => False)
  go_enter Try.func6, Try.ntmps6
  have st2 := trivial
  have st8 := trivial
  have st10 := trivial
  have st12 := trivial
  go_upto_region 4 with (first
    | (clear st2; go_at_call 22; (with_reducible refine (awake_ok _).mono ?_); rintro e wA ⟨rfl, hb⟩; replace H := H.call hb; clear hb)
    | (clear st8; go_at_call 33; (with_reducible refine (hAB.out _).mono ?_); rintro e w3 ⟨A4, c5, A6, c7, rfl, hr, hr2, hb⟩; replace H := (H.got (fresh_row hr) hb).more ((H.got (fresh_row hr2) hb).row _ m0); clear hr hr2 hb)
    | (clear st10; (with_reducible refine gate_dst (N := 3) rfl ?_); refine box_event ?hg (N := 3) ?hd (cs := #[.bool false, .slice none 0 0]) (t := 25) ?hr ?_; (case hd => rfl); (case hg => rfl); (case hr => first | (go_simp; done) | (go_simp; rfl)); intro gx hg w9 hbox hb; replace H := H.newbox hg hbox hb; clear hg hbox hb; have kgx_0 : w9.cell? ⟨gx, 0, none⟩ = some (.bool false) := H.cell m0 0; have zgx_0 := H.frozen (g := gx) m0 0; have kgx_1 : w9.cell? ⟨gx, 1, none⟩ = some (.slice none 0 0) := H.cell m0 1; have zgx_1 := H.frozen (g := gx) m0 1)
    | (clear st12; (with_reducible refine gate_dst (N := 4) rfl ?_); refine box_event ?hg (N := 4) ?hd (cs := #[.bool false, .slice none 0 0]) (t := 25) ?hr ?_; (case hd => rfl); (case hg => rfl); (case hr => first | (go_simp; done) | (go_simp; rfl)); intro gu hg w11 hbox hb; replace H := H.newbox hg hbox hb; clear hg hbox hb; clear kgx_0 zgx_0 kgx_1 zgx_1; have kgu_0 : w11.cell? ⟨gu, 0, none⟩ = some (.bool false) := H.cell m0 0; have zgu_0 := H.frozen (g := gu) m0 0; have kgu_1 : w11.cell? ⟨gu, 1, none⟩ = some (.slice none 0 0) := H.cell m0 1; have zgu_1 := H.frozen (g := gu) m0 1; have kgx_0 : w11.cell? ⟨gx, 0, none⟩ = some (.bool false) := H.cell m1 0; have zgx_0 := H.frozen (g := gx) m1 0; have kgx_1 : w11.cell? ⟨gx, 1, none⟩ = some (.slice none 0 0) := H.cell m1 1; have zgx_1 := H.frozen (g := gx) m1 1; have ne_gu_gx := H.ne (g := gu) (g' := gx) 0 1 rfl rfl (by decide); have ne_gx_gu := ne_gu_gx.symm))
  (try simp only [Act.put, List.setIfInBounds_toArray, List.set_cons_zero, List.set_cons_succ])
  replace H := ((((H.setn [_] 0 (.bool (ng x)) rfl).setn [_] 1 (.slice A4 (ln x) c5) rfl).setn [] 0 (.bool (ng u)) rfl).setn [] 1 (.slice A6 (ln u) c7) rfl)
  clear kgu_0 zgu_0 kgu_1 zgu_1 kgx_0 zgx_0 kgx_1 zgx_1
  generalize ((((w11.setCell ⟨gx, 0, none⟩ (.bool (ng x))).setCell ⟨gx, 1, none⟩ (.slice A4 (ln x) c5)).setCell ⟨gu, 0, none⟩ (.bool (ng u))).setCell ⟨gu, 1, none⟩ (.slice A6 (ln u) c7)) = w13 at H ⊢
  have kgu_0 : w13.cell? ⟨gu, 0, none⟩ = some (.bool (ng u)) := H.cell m0 0
  have zgu_0 := H.frozen (g := gu) m0 0
  have kgu_1 : w13.cell? ⟨gu, 1, none⟩ = some (.slice A6 (ln u) c7) := H.cell m0 1
  have zgu_1 := H.frozen (g := gu) m0 1
  have kgx_0 : w13.cell? ⟨gx, 0, none⟩ = some (.bool (ng x)) := H.cell m1 0
  have zgx_0 := H.frozen (g := gx) m1 0
  have kgx_1 : w13.cell? ⟨gx, 1, none⟩ = some (.slice A4 (ln x) c5) := H.cell m1 1
  have zgx_1 := H.frozen (g := gx) m1 1
  go_wp2
  go_ret
  exact ⟨rfl, H.below⟩

set_option maxHeartbeats 8000000 in
set_option maxRecDepth 100000 in
theorem bits_0 (a : ByteArray) (w : World) (x u : Int) (bx : Aside0 (ln x ≤ 10)) (hB : Aside0 (((blen x.natAbs : Nat) : Int) = 0)) (hS : Aside0 (sg x = 0)) (hAB : Aside0 (∀ w, Calls Try.prog 33 #[.string a, .string ⟨#[48]⟩] w (RetTwo w x u true))) : Calls Try.prog 6 #[.string a] w (fun e W' => e = .returned (.bool true) ∧ Below w.heap.size w W') := by
  have hu25 := Try.underlying25
  have H := Sit.start w (fun _ => False)
  go_enter Try.func6, Try.ntmps6
  have st2 := trivial
  have st8 := trivial
  have st10 := trivial
  have st12 := trivial
  go_upto_region 4 with (first
    | (clear st2; go_at_call 22; (with_reducible refine (awake_ok _).mono ?_); rintro e wA ⟨rfl, hb⟩; replace H := H.call hb; clear hb)
    | (clear st8; go_at_call 33; (with_reducible refine (hAB.out _).mono ?_); rintro e w3 ⟨A4, c5, A6, c7, rfl, hr, hr2, hb⟩; replace H := (H.got (fresh_row hr) hb).more ((H.got (fresh_row hr2) hb).row _ m0); clear hr hr2 hb)
    | (clear st10; (with_reducible refine gate_dst (N := 3) rfl ?_); refine box_event ?hg (N := 3) ?hd (cs := #[.bool false, .slice none 0 0]) (t := 25) ?hr ?_; (case hd => rfl); (case hg => rfl); (case hr => first | (go_simp; done) | (go_simp; rfl)); intro gx hg w9 hbox hb; replace H := H.newbox hg hbox hb; clear hg hbox hb; have kgx_0 : w9.cell? ⟨gx, 0, none⟩ = some (.bool false) := H.cell m0 0; have zgx_0 := H.frozen (g := gx) m0 0; have kgx_1 : w9.cell? ⟨gx, 1, none⟩ = some (.slice none 0 0) := H.cell m0 1; have zgx_1 := H.frozen (g := gx) m0 1)
    | (clear st12; (with_reducible refine gate_dst (N := 4) rfl ?_); refine box_event ?hg (N := 4) ?hd (cs := #[.bool false, .slice none 0 0]) (t := 25) ?hr ?_; (case hd => rfl); (case hg => rfl); (case hr => first | (go_simp; done) | (go_simp; rfl)); intro gu hg w11 hbox hb; replace H := H.newbox hg hbox hb; clear hg hbox hb; clear kgx_0 zgx_0 kgx_1 zgx_1; have kgu_0 : w11.cell? ⟨gu, 0, none⟩ = some (.bool false) := H.cell m0 0; have zgu_0 := H.frozen (g := gu) m0 0; have kgu_1 : w11.cell? ⟨gu, 1, none⟩ = some (.slice none 0 0) := H.cell m0 1; have zgu_1 := H.frozen (g := gu) m0 1; have kgx_0 : w11.cell? ⟨gx, 0, none⟩ = some (.bool false) := H.cell m1 0; have zgx_0 := H.frozen (g := gx) m1 0; have kgx_1 : w11.cell? ⟨gx, 1, none⟩ = some (.slice none 0 0) := H.cell m1 1; have zgx_1 := H.frozen (g := gx) m1 1; have ne_gu_gx := H.ne (g := gu) (g' := gx) 0 1 rfl rfl (by decide); have ne_gx_gu := ne_gu_gx.symm))
  (try simp only [Act.put, List.setIfInBounds_toArray, List.set_cons_zero, List.set_cons_succ])
  replace H := ((((H.setn [_] 0 (.bool (ng x)) rfl).setn [_] 1 (.slice A4 (ln x) c5) rfl).setn [] 0 (.bool (ng u)) rfl).setn [] 1 (.slice A6 (ln u) c7) rfl)
  clear kgu_0 zgu_0 kgu_1 zgu_1 kgx_0 zgx_0 kgx_1 zgx_1
  generalize ((((w11.setCell ⟨gx, 0, none⟩ (.bool (ng x))).setCell ⟨gx, 1, none⟩ (.slice A4 (ln x) c5)).setCell ⟨gu, 0, none⟩ (.bool (ng u))).setCell ⟨gu, 1, none⟩ (.slice A6 (ln u) c7)) = w13 at H ⊢
  have kgu_0 : w13.cell? ⟨gu, 0, none⟩ = some (.bool (ng u)) := H.cell m0 0
  have zgu_0 := H.frozen (g := gu) m0 0
  have kgu_1 : w13.cell? ⟨gu, 1, none⟩ = some (.slice A6 (ln u) c7) := H.cell m0 1
  have zgu_1 := H.frozen (g := gu) m0 1
  have kgx_0 : w13.cell? ⟨gx, 0, none⟩ = some (.bool (ng x)) := H.cell m1 0
  have zgx_0 := H.frozen (g := gx) m1 0
  have kgx_1 : w13.cell? ⟨gx, 1, none⟩ = some (.slice A4 (ln x) c5) := H.cell m1 1
  have zgx_1 := H.frozen (g := gx) m1 1
  have st15 := trivial
  have st17 := trivial
  go_wp2_with (first
    | (clear st15; go_at_call 36; (with_reducible refine (BitsQ (H.row _ m1) (lim bx.out (by decide)) 0 hB.out).mono ?_); rintro e w14 ⟨rfl, hb⟩; replace H := H.call hb; clear hb; clear kgu_0 zgu_0 kgu_1 zgu_1 kgx_0 zgx_0 kgx_1 zgx_1; have kgu_0 : w14.cell? ⟨gu, 0, none⟩ = some (.bool (ng u)) := H.cell m0 0; have zgu_0 := H.frozen (g := gu) m0 0; have kgu_1 : w14.cell? ⟨gu, 1, none⟩ = some (.slice A6 (ln u) c7) := H.cell m0 1; have zgu_1 := H.frozen (g := gu) m0 1; have kgx_0 : w14.cell? ⟨gx, 0, none⟩ = some (.bool (ng x)) := H.cell m1 0; have zgx_0 := H.frozen (g := gx) m1 0; have kgx_1 : w14.cell? ⟨gx, 1, none⟩ = some (.slice A4 (ln x) c5) := H.cell m1 1; have zgx_1 := H.frozen (g := gx) m1 1)
    | (clear st17; go_at_call 25; (with_reducible refine (SignQ _ _ _ (lim bx.out (by decide)) 0 hS.out).mono ?_); rintro e w16 ⟨rfl, hb⟩; replace H := H.call hb; clear hb; clear kgu_0 zgu_0 kgu_1 zgu_1 kgx_0 zgx_0 kgx_1 zgx_1; have kgu_0 : w16.cell? ⟨gu, 0, none⟩ = some (.bool (ng u)) := H.cell m0 0; have zgu_0 := H.frozen (g := gu) m0 0; have kgu_1 : w16.cell? ⟨gu, 1, none⟩ = some (.slice A6 (ln u) c7) := H.cell m0 1; have zgu_1 := H.frozen (g := gu) m0 1; have kgx_0 : w16.cell? ⟨gx, 0, none⟩ = some (.bool (ng x)) := H.cell m1 0; have zgx_0 := H.frozen (g := gx) m1 0; have kgx_1 : w16.cell? ⟨gx, 1, none⟩ = some (.slice A4 (ln x) c5) := H.cell m1 1; have zgx_1 := H.frozen (g := gx) m1 1))
  go_ret
  exact ⟨rfl, H.below⟩

def tb6.T16 : Bool × List (List Nat × List Nat) := (true, [([], []), ([], []), ([1], [1]), ([0, 2, 2], [0, 2]), ([3], [3]), ([4, 3], [4]), ([5], [5]), ([5], [5]), ([6, 7, 5, 5], [5, 6, 7]), ([5], [5]), ([9, 8, 5], [5, 9]), ([8, 10, 10, 5], [5, 8, 10]), ([11, 5], [5, 11]), ([5, 12], [5, 12]), ([13, 11], [13]), ([14], [14]), ([15, 14, 14], [14, 15]), ([16, 16, 14], [14, 16]), ([14], [14]), ([17, 18, 14], [14, 17, 18]), ([14, 19], [14, 19]), ([20, 17, 0, 1, 2, 3, 4, 5, 6, 7, 8, 9, 10, 11, 12, 13, 14, 15, 16, 17, 18, 19, 20], [20])])
def tb6.B16 : List Nat := [0, 0, 2, 7, 15, 31, 63, 63, 255, 63, 1023, 2047, 4095, 8191, 16383, 32767, 65535, 131071, 32767, 524287, 1048575, 2097151]
theorem tb6.tab16 : rtab .any (opsOf Try.f6 16) = tb6.T16 := by kernel_rfl
theorem tb6.bits16 : waitsOk tb6.T16.2 tb6.B16 = true := by kernel_rfl

set_option maxHeartbeats 8000000 in
set_option maxRecDepth 100000 in
theorem bits_t (a : ByteArray) (w : World) (x u : Int) (bx : Aside0 (ln x ≤ 10)) (n s : Int) (hn : Aside0 (1 ≤ n ∧ n ≤ 320)) (hX : Aside0 (x.natAbs ≠ 0)) (hs0 : Aside0 (s ≠ 0)) (hB : Aside0 (((blen x.natAbs : Nat) : Int) = n)) (hS : Aside0 (sg x = s)) (hAB : Aside0 (∀ w, Calls Try.prog 33 #[.string a, .string ⟨#[48]⟩] w (RetTwo w x u true))) : Calls Try.prog 6 #[.string a] w (fun e W' => e = .returned (.bool true) ∧ Below w.heap.size w W') := by
  have rn1 : 1 ≤ n := hn.out.1
  have rn2 : n ≤ 320 := hn.out.2
  have d1 : decide (n < 1) = false := decide_eq_false (by omega)
  have d2 : decide (400 < n) = false := decide_eq_false (by omega)
  have d3 : (s == 0) = false := beq_eq_false_iff_ne.mpr hs0.out
  obtain ⟨p, ep⟩ : ∃ v : Int, (1 : Int) = v := ⟨_, rfl⟩
  have hp := Aside0.mk ep
  clear ep
  have hu25 := Try.underlying25
  have H := Sit.start w (fun _ => False)
  go_enter Try.func6, Try.ntmps6
  have st2 := trivial
  have st8 := trivial
  have st10 := trivial
  have st12 := trivial
  go_upto_region 4 with (first
    | (clear st2; go_at_call 22; (with_reducible refine (awake_ok _).mono ?_); rintro e wA ⟨rfl, hb⟩; replace H := H.call hb; clear hb)
    | (clear st8; go_at_call 33; (with_reducible refine (hAB.out _).mono ?_); rintro e w3 ⟨A4, c5, A6, c7, rfl, hr, hr2, hb⟩; replace H := (H.got (fresh_row hr) hb).more ((H.got (fresh_row hr2) hb).row _ m0); clear hr hr2 hb)
    | (clear st10; (with_reducible refine gate_dst (N := 3) rfl ?_); refine box_event ?hg (N := 3) ?hd (cs := #[.bool false, .slice none 0 0]) (t := 25) ?hr ?_; (case hd => rfl); (case hg => rfl); (case hr => first | (go_simp; done) | (go_simp; rfl)); intro gx hg w9 hbox hb; replace H := H.newbox hg hbox hb; clear hg hbox hb; have kgx_0 : w9.cell? ⟨gx, 0, none⟩ = some (.bool false) := H.cell m0 0; have zgx_0 := H.frozen (g := gx) m0 0; have kgx_1 : w9.cell? ⟨gx, 1, none⟩ = some (.slice none 0 0) := H.cell m0 1; have zgx_1 := H.frozen (g := gx) m0 1)
    | (clear st12; (with_reducible refine gate_dst (N := 4) rfl ?_); refine box_event ?hg (N := 4) ?hd (cs := #[.bool false, .slice none 0 0]) (t := 25) ?hr ?_; (case hd => rfl); (case hg => rfl); (case hr => first | (go_simp; done) | (go_simp; rfl)); intro gu hg w11 hbox hb; replace H := H.newbox hg hbox hb; clear hg hbox hb; clear kgx_0 zgx_0 kgx_1 zgx_1; have kgu_0 : w11.cell? ⟨gu, 0, none⟩ = some (.bool false) := H.cell m0 0; have zgu_0 := H.frozen (g := gu) m0 0; have kgu_1 : w11.cell? ⟨gu, 1, none⟩ = some (.slice none 0 0) := H.cell m0 1; have zgu_1 := H.frozen (g := gu) m0 1; have kgx_0 : w11.cell? ⟨gx, 0, none⟩ = some (.bool false) := H.cell m1 0; have zgx_0 := H.frozen (g := gx) m1 0; have kgx_1 : w11.cell? ⟨gx, 1, none⟩ = some (.slice none 0 0) := H.cell m1 1; have zgx_1 := H.frozen (g := gx) m1 1; have ne_gu_gx := H.ne (g := gu) (g' := gx) 0 1 rfl rfl (by decide); have ne_gx_gu := ne_gu_gx.symm))
  (try simp only [Act.put, List.setIfInBounds_toArray, List.set_cons_zero, List.set_cons_succ])
  replace H := ((((H.setn [_] 0 (.bool (ng x)) rfl).setn [_] 1 (.slice A4 (ln x) c5) rfl).setn [] 0 (.bool (ng u)) rfl).setn [] 1 (.slice A6 (ln u) c7) rfl)
  clear kgu_0 zgu_0 kgu_1 zgu_1 kgx_0 zgx_0 kgx_1 zgx_1
  generalize ((((w11.setCell ⟨gx, 0, none⟩ (.bool (ng x))).setCell ⟨gx, 1, none⟩ (.slice A4 (ln x) c5)).setCell ⟨gu, 0, none⟩ (.bool (ng u))).setCell ⟨gu, 1, none⟩ (.slice A6 (ln u) c7)) = w13 at H ⊢
  have kgu_0 : w13.cell? ⟨gu, 0, none⟩ = some (.bool (ng u)) := H.cell m0 0
  have zgu_0 := H.frozen (g := gu) m0 0
  have kgu_1 : w13.cell? ⟨gu, 1, none⟩ = some (.slice A6 (ln u) c7) := H.cell m0 1
  have zgu_1 := H.frozen (g := gu) m0 1
  have kgx_0 : w13.cell? ⟨gx, 0, none⟩ = some (.bool (ng x)) := H.cell m1 0
  have zgx_0 := H.frozen (g := gx) m1 0
  have kgx_1 : w13.cell? ⟨gx, 1, none⟩ = some (.slice A4 (ln x) c5) := H.cell m1 1
  have zgx_1 := H.frozen (g := gx) m1 1
  have st15 := trivial
  have st17 := trivial
  have st21 := trivial
  have st23 := trivial
  go_upto_region 12 with (first
    | (clear st15; go_at_call 36; (with_reducible refine (BitsQ (H.row _ m1) (lim bx.out (by decide)) n hB.out).mono ?_); rintro e w14 ⟨rfl, hb⟩; replace H := H.call hb; clear hb; clear kgu_0 zgu_0 kgu_1 zgu_1 kgx_0 zgx_0 kgx_1 zgx_1; have kgu_0 : w14.cell? ⟨gu, 0, none⟩ = some (.bool (ng u)) := H.cell m0 0; have zgu_0 := H.frozen (g := gu) m0 0; have kgu_1 : w14.cell? ⟨gu, 1, none⟩ = some (.slice A6 (ln u) c7) := H.cell m0 1; have zgu_1 := H.frozen (g := gu) m0 1; have kgx_0 : w14.cell? ⟨gx, 0, none⟩ = some (.bool (ng x)) := H.cell m1 0; have zgx_0 := H.frozen (g := gx) m1 0; have kgx_1 : w14.cell? ⟨gx, 1, none⟩ = some (.slice A4 (ln x) c5) := H.cell m1 1; have zgx_1 := H.frozen (g := gx) m1 1)
    | (clear st17; go_at_call 25; (with_reducible refine (SignQ _ _ _ (lim bx.out (by decide)) s hS.out).mono ?_); rintro e w16 ⟨rfl, hb⟩; replace H := H.call hb; clear hb; clear kgu_0 zgu_0 kgu_1 zgu_1 kgx_0 zgx_0 kgx_1 zgx_1; have kgu_0 : w16.cell? ⟨gu, 0, none⟩ = some (.bool (ng u)) := H.cell m0 0; have zgu_0 := H.frozen (g := gu) m0 0; have kgu_1 : w16.cell? ⟨gu, 1, none⟩ = some (.slice A6 (ln u) c7) := H.cell m0 1; have zgu_1 := H.frozen (g := gu) m0 1; have kgx_0 : w16.cell? ⟨gx, 0, none⟩ = some (.bool (ng x)) := H.cell m1 0; have zgx_0 := H.frozen (g := gx) m1 0; have kgx_1 : w16.cell? ⟨gx, 1, none⟩ = some (.slice A4 (ln x) c5) := H.cell m1 1; have zgx_1 := H.frozen (g := gx) m1 1)
    | (clear st21; go_at_call 27; (with_reducible refine (OfQ _ 1 p hp.out (by omega) (by omega)).mono ?_); rintro e w18 ⟨A19, c20, rfl, hr, hb⟩; replace H := H.got (fresh_row hr) hb; clear hr hb; clear kgu_0 zgu_0 kgu_1 zgu_1 kgx_0 zgx_0 kgx_1 zgx_1; have kgu_0 : w18.cell? ⟨gu, 0, none⟩ = some (.bool (ng u)) := H.cell m0 0; have zgu_0 := H.frozen (g := gu) m0 0; have kgu_1 : w18.cell? ⟨gu, 1, none⟩ = some (.slice A6 (ln u) c7) := H.cell m0 1; have zgu_1 := H.frozen (g := gu) m0 1; have kgx_0 : w18.cell? ⟨gx, 0, none⟩ = some (.bool (ng x)) := H.cell m1 0; have zgx_0 := H.frozen (g := gx) m1 0; have kgx_1 : w18.cell? ⟨gx, 1, none⟩ = some (.slice A4 (ln x) c5) := H.cell m1 1; have zgx_1 := H.frozen (g := gx) m1 1)
    | (clear st23; (with_reducible refine gate_dst (N := 7) rfl ?_); refine box_event ?hg (N := 7) ?hd (cs := #[.bool false, .slice none 0 0]) (t := 25) ?hr ?_; (case hd => rfl); (case hg => rfl); (case hr => first | (go_simp; done) | (go_simp; rfl)); intro gp hg w22 hbox hb; replace H := H.newbox hg hbox hb; clear hg hbox hb; clear kgu_0 zgu_0 kgu_1 zgu_1 kgx_0 zgx_0 kgx_1 zgx_1; have kgp_0 : w22.cell? ⟨gp, 0, none⟩ = some (.bool false) := H.cell m0 0; have zgp_0 := H.frozen (g := gp) m0 0; have kgp_1 : w22.cell? ⟨gp, 1, none⟩ = some (.slice none 0 0) := H.cell m0 1; have zgp_1 := H.frozen (g := gp) m0 1; have kgu_0 : w22.cell? ⟨gu, 0, none⟩ = some (.bool (ng u)) := H.cell m1 0; have zgu_0 := H.frozen (g := gu) m1 0; have kgu_1 : w22.cell? ⟨gu, 1, none⟩ = some (.slice A6 (ln u) c7) := H.cell m1 1; have zgu_1 := H.frozen (g := gu) m1 1; have kgx_0 : w22.cell? ⟨gx, 0, none⟩ = some (.bool (ng x)) := H.cell m2 0; have zgx_0 := H.frozen (g := gx) m2 0; have kgx_1 : w22.cell? ⟨gx, 1, none⟩ = some (.slice A4 (ln x) c5) := H.cell m2 1; have zgx_1 := H.frozen (g := gx) m2 1; have ne_gp_gu := H.ne (g := gp) (g' := gu) 0 1 rfl rfl (by decide); have ne_gu_gp := ne_gp_gu.symm; have ne_gp_gx := H.ne (g := gp) (g' := gx) 0 2 rfl rfl (by decide); have ne_gx_gp := ne_gp_gx.symm))
  (try simp only [Act.put, List.setIfInBounds_toArray, List.set_cons_zero, List.set_cons_succ])
  replace H := ((H.setn [] 0 (.bool (ng p)) rfl).setn [] 1 (.slice A19 (ln p) c20) rfl)
  clear kgp_0 zgp_0 kgp_1 zgp_1 kgu_0 zgu_0 kgu_1 zgu_1 kgx_0 zgx_0 kgx_1 zgx_1
  generalize ((w22.setCell ⟨gp, 0, none⟩ (.bool (ng p))).setCell ⟨gp, 1, none⟩ (.slice A19 (ln p) c20)) = w24 at H ⊢
  have kgp_0 : w24.cell? ⟨gp, 0, none⟩ = some (.bool (ng p)) := H.cell m0 0
  have zgp_0 := H.frozen (g := gp) m0 0
  have kgp_1 : w24.cell? ⟨gp, 1, none⟩ = some (.slice A19 (ln p) c20) := H.cell m0 1
  have zgp_1 := H.frozen (g := gp) m0 1
  have kgu_0 : w24.cell? ⟨gu, 0, none⟩ = some (.bool (ng u)) := H.cell m1 0
  have zgu_0 := H.frozen (g := gu) m1 0
  have kgu_1 : w24.cell? ⟨gu, 1, none⟩ = some (.slice A6 (ln u) c7) := H.cell m1 1
  have zgu_1 := H.frozen (g := gu) m1 1
  have kgx_0 : w24.cell? ⟨gx, 0, none⟩ = some (.bool (ng x)) := H.cell m2 0
  have zgx_0 := H.frozen (g := gx) m2 0
  have kgx_1 : w24.cell? ⟨gx, 1, none⟩ = some (.slice A4 (ln x) c5) := H.cell m2 1
  have zgx_1 := H.frozen (g := gx) m2 1
  go_wp2
  go_loopw [34] (fun iv wr => ∃ (i : Nat) (P : Int) (AP : Option Addr) (cP : Nat), iv = .int .i64 i ∧ (i : Int) < n ∧ P = 2 ^ i ∧ Sit w wr (fun _ => False) [(gp, .cells #[.bool (ng P), .slice AP (ln P) cP] 25 (0, 0)), (gu, .cells #[.bool (ng u), .slice A6 (ln u) c7] 25 (0, 0)), (gx, .cells #[.bool (ng x), .slice A4 (ln x) c5] 25 (0, 0))] [bw AP cP P, bw A6 c7 u, bw A4 c5 x]) (fun iv _ => n.toNat - (intOf iv).toNat)
  case atStart => exact ⟨0, p, A19, c20, rfl, by omega, by rw [← hp.out]; rfl, H⟩
  case round =>
    clear H kgp_0 zgp_0 kgp_1 zgp_1 kgu_0 zgu_0 kgu_1 zgu_1 kgx_0 zgx_0 kgx_1 zgx_1
    obtain ⟨i, P, AP, cP, rfl, hi, hP, H⟩ := hrel
    have bP := Aside0.mk (show ln P ≤ 13 by rw [hP]; exact ln_pow2 (by omega))
    have kgp_0 : wr.cell? ⟨gp, 0, none⟩ = some (.bool (ng P)) := H.cell m0 0
    have zgp_0 := H.frozen (g := gp) m0 0
    have kgp_1 : wr.cell? ⟨gp, 1, none⟩ = some (.slice AP (ln P) cP) := H.cell m0 1
    have zgp_1 := H.frozen (g := gp) m0 1
    have kgu_0 : wr.cell? ⟨gu, 0, none⟩ = some (.bool (ng u)) := H.cell m1 0
    have zgu_0 := H.frozen (g := gu) m1 0
    have kgu_1 : wr.cell? ⟨gu, 1, none⟩ = some (.slice A6 (ln u) c7) := H.cell m1 1
    have zgu_1 := H.frozen (g := gu) m1 1
    have kgx_0 : wr.cell? ⟨gx, 0, none⟩ = some (.bool (ng x)) := H.cell m2 0
    have zgx_0 := H.frozen (g := gx) m2 0
    have kgx_1 : wr.cell? ⟨gx, 1, none⟩ = some (.slice A4 (ln x) c5) := H.cell m2 1
    have zgx_1 := H.frozen (g := gx) m2 1
    by_cases hlt : (i : Int) < n - 1
    · skip
      have v1 : decide ((i : Int) < n - 1) = true := decide_eq_true hlt
      obtain ⟨P2, eP2⟩ : ∃ v : Int, P + P = v := ⟨_, rfl⟩
      have hP2 := Aside0.mk eP2
      have hPP := Aside0.mk hP
      clear eP2 hP
      have st28 := trivial
      go_wp2_with (first
        | (clear st28; go_at_call 28; (with_reducible refine (AddQ (H.row _ m0) (H.row _ m0) (lim bP.out (by decide)) (lim bP.out (by decide)) P2 hP2.out).mono ?_); rintro e w25 ⟨A26, c27, rfl, hr, hb⟩; replace H := H.got hr hb; clear hr hb; clear kgp_0 zgp_0 kgp_1 zgp_1 kgu_0 zgu_0 kgu_1 zgu_1 kgx_0 zgx_0 kgx_1 zgx_1; have kgp_0 : w25.cell? ⟨gp, 0, none⟩ = some (.bool (ng P)) := H.cell m0 0; have zgp_0 := H.frozen (g := gp) m0 0; have kgp_1 : w25.cell? ⟨gp, 1, none⟩ = some (.slice AP (ln P) cP) := H.cell m0 1; have zgp_1 := H.frozen (g := gp) m0 1; have kgu_0 : w25.cell? ⟨gu, 0, none⟩ = some (.bool (ng u)) := H.cell m1 0; have zgu_0 := H.frozen (g := gu) m1 0; have kgu_1 : w25.cell? ⟨gu, 1, none⟩ = some (.slice A6 (ln u) c7) := H.cell m1 1; have zgu_1 := H.frozen (g := gu) m1 1; have kgx_0 : w25.cell? ⟨gx, 0, none⟩ = some (.bool (ng x)) := H.cell m2 0; have zgx_0 := H.frozen (g := gx) m2 0; have kgx_1 : w25.cell? ⟨gx, 1, none⟩ = some (.slice A4 (ln x) c5) := H.cell m2 1; have zgx_1 := H.frozen (g := gx) m2 1))
      replace H := ((H.setn [] 0 (.bool (ng P2)) rfl).setn [] 1 (.slice A26 (ln P2) c27) rfl)
      go_roundw
      case rel => exact ⟨i + 1, P2, A26, c27, by go_num, by omega, by rw [← hP2.out, hPP.out, Int.pow_succ]; omega, ⟨H.below, H.nd, H.box, fun f hf => H.row f (by rcases List.mem_cons.mp hf with rfl | hf; exact m0; exact .tail _ (.tail _ hf))⟩⟩
      case measure => simp [intOf]; omega
    · skip
      have v1 : decide ((i : Int) < n - 1) = false := decide_eq_false hlt
      have hin : (i : Int) + 1 = n := by omega
      obtain ⟨ax, eax⟩ : ∃ v : Int, ((x.natAbs : Nat) : Int) = v := ⟨_, rfl⟩
      obtain ⟨P2, eP2⟩ : ∃ v : Int, P + P = v := ⟨_, rfl⟩
      obtain ⟨nx, enx⟩ : ∃ v : Int, -x = v := ⟨_, rfl⟩
      have eB := hB.out
      have hx0 : x.natAbs ≠ 0 := hX.out
      have hbb := blen_bounds hx0
      have hiN : blen x.natAbs = i + 1 := by omega
      rw [hiN, Nat.add_sub_cancel] at hbb
      have q1 : P ≤ ax := by rw [hP, ← eax]; have h := Int.ofNat_le.mpr hbb.2.1; rwa [Int.natCast_pow] at h
      have q2 : ax < P2 := by rw [← eP2, hP, ← eax]; have h := Int.ofNat_lt.mpr hbb.2.2; rw [Int.natCast_pow, Int.pow_succ] at h; have e2 : ((2 : Nat) : Int) = 2 := rfl; rw [e2] at h; omega
      obtain ⟨k1, ek1⟩ : ∃ v, cmp3 P ax = v := ⟨_, rfl⟩
      have t1 : decide (k1 ≤ 0) = true := decide_eq_true (by rw [← ek1]; unfold cmp3; repeat' split <;> omega)
      have hk1 := Aside0.mk ek1
      have hk2 := Aside0.mk (show cmp3 P2 ax = 1 from cmp3_gt q2)
      have hax := Aside0.mk eax
      have hP2 := Aside0.mk eP2
      have hnx := Aside0.mk enx
      have bax := Aside0.mk (bAbs bx.out (show ax.natAbs ≤ x.natAbs by omega))
      have bP2 := Aside0.mk (bAdd bP.out bP.out eP2)
      have bnx := Aside0.mk (bNeg bx.out enx)
      have hBn := Aside0.mk (show ((blen nx.natAbs : Nat) : Int) = n by rw [← enx, Int.natAbs_neg]; exact eB)
      have t2 : (n == n) = true := by simp
      clear eax eP2 enx eB hx0 hbb hiN q1 q2 ek1 hP
      go_upto_region 16 with fail
      (try simp only [Act.put, List.setIfInBounds_toArray, List.set_cons_zero, List.set_cons_succ])
      clear kgp_0 zgp_0 kgp_1 zgp_1 kgu_0 zgu_0 kgu_1 zgu_1 kgx_0 zgx_0 kgx_1 zgx_1
      replace H := H.drew
      refine start_ (n := 22) (S := fun w' => w'.cell? ⟨gp, 0, none⟩ = some (.bool (ng P)) ∧ w'.cell? ⟨gp, 1, none⟩ = some (.slice AP (ln P) cP) ∧ w'.cell? ⟨gx, 0, none⟩ = some (.bool (ng x)) ∧ w'.cell? ⟨gx, 1, none⟩ = some (.slice A4 (ln x) c5)) (ds := []) #[false, false, false, false, false, false, false, false, false, false, false, false, false, false, false, false, false, false, false, false, false, false] (by kernel_rfl) rfl rfl ⟨H.cell m0 0, H.cell m0 1, H.cell m2 0, H.cell m2 1⟩ (fun hHeld => ?_)
      generalize wr.drew = w29 at H hHeld ⊢
      refine with_tabW tb6.tab16 tb6.bits16 (fun HT_ HW_ => ?_)
      refine take_ (i := 0) (N := some 40) (v := ?_) (a' := ?_) #[true, false, false, false, false, false, false, false, false, false, false, false, false, false, false, false, false, false, false, false, false, false] rfl rfl (take_ofW HT_.out HW_.out (by kernel_rfl)) (fun _ _ _ h => h) (Or.inl ⟨by rfl, ?_⟩) hHeld ?_ ?_
      rotate_left
      · rintro w' ⟨s0, s1, s2, s3⟩
        go_simp
        with_reducible rfl
      rotate_left
      · simp only [Act.put, List.setIfInBounds_toArray, List.set_cons_zero, List.set_cons_succ, i64_w, i32_w]
        rfl
      refine take_ (i := 1) (N := some 41) (v := ?_) (a' := ?_) #[true, true, false, false, false, false, false, false, false, false, false, false, false, false, false, false, false, false, false, false, false, false] rfl rfl (take_ofW HT_.out HW_.out (by kernel_rfl)) (fun _ _ _ h => h) (Or.inl ⟨by rfl, ?_⟩) hHeld ?_ ?_
      rotate_left
      · rintro w' ⟨s0, s1, s2, s3⟩
        go_simp
        with_reducible rfl
      rotate_left
      · simp only [Act.put, List.setIfInBounds_toArray, List.set_cons_zero, List.set_cons_succ, i64_w, i32_w]
        rfl
      refine one_ (i := 2) (N := some 42) #[true, true, true, false, false, false, false, false, false, false, false, false, false, false, false, false, false, false, false, false, false, false] rfl rfl (one_of HT_.out (by kernel_rfl)) (by decide) (fun K hK => ?_)
      refine goes_ Try.func35 (by kernel_rfl) rfl #[.agg #[.bool (ng x), .slice A4 (ln x) c5]] (by rfl) rfl rfl (by (try simp only [List.map_toArray, List.map_cons, List.map_nil]); first | done | rfl) ?_
      with_reducible refine (AbsQ (H.row _ m2) (lim bx.out (by decide)) ax hax.out).mono ?_
      rintro e w30 ⟨A31, c32, rfl, hr, hb⟩
      replace H := H.got hr hb
      clear hr hb
      refine ⟨_, rfl, ?_⟩
      refine hK.out _ _ ⟨H.cell m0 0, H.cell m0 1, H.cell m2 0, H.cell m2 1⟩ (fun hHeld => ?_)
      clear hK K
      refine norm_ (a' := ?_) ?_ ?_
      rotate_left
      · show Act.put _ (some 42) _ = _
        simp only [Act.put, List.setIfInBounds_toArray, List.set_cons_zero, List.set_cons_succ, i64_w, i32_w]
        rfl
      refine one_ (i := 3) (N := some 43) #[true, true, true, true, false, false, false, false, false, false, false, false, false, false, false, false, false, false, false, false, false, false] rfl rfl (one_of HT_.out (by kernel_rfl)) (by decide) (fun K hK => ?_)
      refine goes_ Try.func34 (by kernel_rfl) rfl #[.agg #[.bool (ng P), .slice AP (ln P) cP], .agg #[.bool (ng ax), .slice A31 (ln ax) c32]] (by rfl) rfl rfl (by (try simp only [List.map_toArray, List.map_cons, List.map_nil]); first | done | rfl) ?_
      with_reducible refine (CmpQ (H.row _ m1) (H.row _ m0) (lim bP.out (by decide)) (lim bax.out (by decide)) k1 hk1.out).mono ?_
      rintro e w33 ⟨rfl, hb⟩
      replace H := H.call hb
      clear hb
      refine ⟨_, rfl, ?_⟩
      refine hK.out _ _ ⟨H.cell m0 0, H.cell m0 1, H.cell m2 0, H.cell m2 1⟩ (fun hHeld => ?_)
      clear hK K
      refine norm_ (a' := ?_) ?_ ?_
      rotate_left
      · show Act.put _ (some 43) _ = _
        simp only [Act.put, List.setIfInBounds_toArray, List.set_cons_zero, List.set_cons_succ, i64_w, i32_w]
        rfl
      refine pure_ (i := 4) (N := some 44) (v := ?_) (a' := ?_) #[true, true, true, true, true, false, false, false, false, false, false, false, false, false, false, false, false, false, false, false, false, false] rfl rfl (any_of HT_.out (by kernel_rfl)) (fun _ _ _ h => h) (Or.inl ⟨by rfl, ?_⟩) ?_ ?_
      rotate_left
      · intro w'
        go_simp
        with_reducible rfl
      rotate_left
      · simp only [Act.put, List.setIfInBounds_toArray, List.set_cons_zero, List.set_cons_succ, i64_w, i32_w]
        rfl
      refine pure_ (i := 5) (N := some 45) (v := ?_) (a' := ?_) #[true, true, true, true, true, true, false, false, false, false, false, false, false, false, false, false, false, false, false, false, false, false] rfl rfl (any_of HT_.out (by kernel_rfl)) (fun _ _ _ h => h) (Or.inl ⟨by rfl, ?_⟩) ?_ ?_
      rotate_left
      · intro w'
        go_simp
        with_reducible rfl
      rotate_left
      · simp only [Act.put, List.setIfInBounds_toArray, List.set_cons_zero, List.set_cons_succ, i64_w, i32_w]
        rfl
      refine take_ (i := 6) (N := some 46) (v := ?_) (a' := ?_) #[true, true, true, true, true, true, true, false, false, false, false, false, false, false, false, false, false, false, false, false, false, false] rfl rfl (take_ofW HT_.out HW_.out (by kernel_rfl)) (fun _ _ _ h => h) (Or.inl ⟨by rfl, ?_⟩) hHeld ?_ ?_
      rotate_left
      · rintro w' ⟨s0, s1, s2, s3⟩
        go_simp
        with_reducible rfl
      rotate_left
      · simp only [Act.put, List.setIfInBounds_toArray, List.set_cons_zero, List.set_cons_succ, i64_w, i32_w]
        rfl
      refine take_ (i := 7) (N := some 47) (v := ?_) (a' := ?_) #[true, true, true, true, true, true, true, true, false, false, false, false, false, false, false, false, false, false, false, false, false, false] rfl rfl (take_ofW HT_.out HW_.out (by kernel_rfl)) (fun _ _ _ h => h) (Or.inl ⟨by rfl, ?_⟩) hHeld ?_ ?_
      rotate_left
      · rintro w' ⟨s0, s1, s2, s3⟩
        go_simp
        with_reducible rfl
      rotate_left
      · simp only [Act.put, List.setIfInBounds_toArray, List.set_cons_zero, List.set_cons_succ, i64_w, i32_w]
        rfl
      refine take_ (i := 9) (N := some 49) (v := ?_) (a' := ?_) #[true, true, true, true, true, true, true, true, false, true, false, false, false, false, false, false, false, false, false, false, false, false] rfl rfl (take_ofW HT_.out HW_.out (by kernel_rfl)) (fun _ _ _ h => h) (Or.inl ⟨by rfl, ?_⟩) hHeld ?_ ?_
      rotate_left
      · rintro w' ⟨s0, s1, s2, s3⟩
        go_simp
        with_reducible rfl
      rotate_left
      · simp only [Act.put, List.setIfInBounds_toArray, List.set_cons_zero, List.set_cons_succ, i64_w, i32_w]
        rfl
      refine one_ (i := 8) (N := some 48) #[true, true, true, true, true, true, true, true, true, true, false, false, false, false, false, false, false, false, false, false, false, false] rfl rfl (one_of HT_.out (by kernel_rfl)) (by decide) (fun K hK => ?_)
      refine goes_ Try.func28 (by kernel_rfl) rfl #[.agg #[.bool (ng P), .slice AP (ln P) cP], .agg #[.bool (ng P), .slice AP (ln P) cP]] (by rfl) rfl rfl (by (try simp only [List.map_toArray, List.map_cons, List.map_nil]); first | done | rfl) ?_
      with_reducible refine (AddQ (H.row _ m1) (H.row _ m1) (lim bP.out (by decide)) (lim bP.out (by decide)) P2 hP2.out).mono ?_
      rintro e w34 ⟨A35, c36, rfl, hr, hb⟩
      replace H := H.got hr hb
      clear hr hb
      refine ⟨_, rfl, ?_⟩
      refine hK.out _ _ ⟨H.cell m0 0, H.cell m0 1, H.cell m2 0, H.cell m2 1⟩ (fun hHeld => ?_)
      clear hK K
      refine norm_ (a' := ?_) ?_ ?_
      rotate_left
      · show Act.put _ (some 48) _ = _
        simp only [Act.put, List.setIfInBounds_toArray, List.set_cons_zero, List.set_cons_succ, i64_w, i32_w]
        rfl
      refine one_ (i := 10) (N := some 50) #[true, true, true, true, true, true, true, true, true, true, true, false, false, false, false, false, false, false, false, false, false, false] rfl rfl (one_of HT_.out (by kernel_rfl)) (by decide) (fun K hK => ?_)
      refine goes_ Try.func35 (by kernel_rfl) rfl #[.agg #[.bool (ng x), .slice A4 (ln x) c5]] (by rfl) rfl rfl (by (try simp only [List.map_toArray, List.map_cons, List.map_nil]); first | done | rfl) ?_
      with_reducible refine (AbsQ (H.row _ m4) (lim bx.out (by decide)) ax hax.out).mono ?_
      rintro e w37 ⟨A38, c39, rfl, hr, hb⟩
      replace H := H.got hr hb
      clear hr hb
      refine ⟨_, rfl, ?_⟩
      refine hK.out _ _ ⟨H.cell m0 0, H.cell m0 1, H.cell m2 0, H.cell m2 1⟩ (fun hHeld => ?_)
      clear hK K
      refine norm_ (a' := ?_) ?_ ?_
      rotate_left
      · show Act.put _ (some 50) _ = _
        simp only [Act.put, List.setIfInBounds_toArray, List.set_cons_zero, List.set_cons_succ, i64_w, i32_w]
        rfl
      refine one_ (i := 11) (N := some 51) #[true, true, true, true, true, true, true, true, true, true, true, true, false, false, false, false, false, false, false, false, false, false] rfl rfl (one_of HT_.out (by kernel_rfl)) (by decide) (fun K hK => ?_)
      refine goes_ Try.func34 (by kernel_rfl) rfl #[.agg #[.bool (ng P2), .slice A35 (ln P2) c36], .agg #[.bool (ng ax), .slice A38 (ln ax) c39]] (by rfl) rfl rfl (by (try simp only [List.map_toArray, List.map_cons, List.map_nil]); first | done | rfl) ?_
      with_reducible refine (CmpQ (H.row _ m1) (H.row _ m0) (lim bP2.out (by decide)) (lim bax.out (by decide)) 1 hk2.out).mono ?_
      rintro e w40 ⟨rfl, hb⟩
      replace H := H.call hb
      clear hb
      refine ⟨_, rfl, ?_⟩
      refine hK.out _ _ ⟨H.cell m0 0, H.cell m0 1, H.cell m2 0, H.cell m2 1⟩ (fun hHeld => ?_)
      clear hK K
      refine norm_ (a' := ?_) ?_ ?_
      rotate_left
      · show Act.put _ (some 51) _ = _
        simp only [Act.put, List.setIfInBounds_toArray, List.set_cons_zero, List.set_cons_succ, i64_w, i32_w]
        rfl
      refine pure_ (i := 12) (N := some 52) (v := ?_) (a' := ?_) #[true, true, true, true, true, true, true, true, true, true, true, true, true, false, false, false, false, false, false, false, false, false] rfl rfl (any_of HT_.out (by kernel_rfl)) (fun _ _ _ h => h) (Or.inl ⟨by rfl, ?_⟩) ?_ ?_
      rotate_left
      · intro w'
        go_simp
        with_reducible rfl
      rotate_left
      · simp only [Act.put, List.setIfInBounds_toArray, List.set_cons_zero, List.set_cons_succ, i64_w, i32_w]
        rfl
      refine pure_ (i := 13) (N := some 53) (v := ?_) (a' := ?_) #[true, true, true, true, true, true, true, true, true, true, true, true, true, true, false, false, false, false, false, false, false, false] rfl rfl (any_of HT_.out (by kernel_rfl)) (fun _ _ _ h => h) (Or.inl ⟨by rfl, ?_⟩) ?_ ?_
      rotate_left
      · intro w'
        go_simp
        with_reducible rfl
      rotate_left
      · simp only [Act.put, List.setIfInBounds_toArray, List.set_cons_zero, List.set_cons_succ, i64_w, i32_w]
        rfl
      refine pure_ (i := 14) (N := some 54) (v := ?_) (a' := ?_) #[true, true, true, true, true, true, true, true, true, true, true, true, true, true, true, false, false, false, false, false, false, false] rfl rfl (any_of HT_.out (by kernel_rfl)) (fun _ _ _ h => h) (Or.inl ⟨by rfl, ?_⟩) ?_ ?_
      rotate_left
      · intro w'
        go_simp
        with_reducible rfl
      rotate_left
      · simp only [Act.put, List.setIfInBounds_toArray, List.set_cons_zero, List.set_cons_succ, i64_w, i32_w]
        rfl
      refine pure_ (i := 18) (N := some 58) (v := ?_) (a' := ?_) #[true, true, true, true, true, true, true, true, true, true, true, true, true, true, true, false, false, false, true, false, false, false] rfl rfl (any_of HT_.out (by kernel_rfl)) (fun _ _ _ h => h) (Or.inl ⟨by rfl, ?_⟩) ?_ ?_
      rotate_left
      · intro w'
        go_simp
        with_reducible rfl
      rotate_left
      · simp only [Act.put, List.setIfInBounds_toArray, List.set_cons_zero, List.set_cons_succ, i64_w, i32_w]
        rfl
      refine take_ (i := 15) (N := some 55) (v := ?_) (a' := ?_) #[true, true, true, true, true, true, true, true, true, true, true, true, true, true, true, true, false, false, true, false, false, false] rfl rfl (take_ofW HT_.out HW_.out (by kernel_rfl)) (fun _ _ _ h => h) (Or.inl ⟨by rfl, ?_⟩) hHeld ?_ ?_
      rotate_left
      · rintro w' ⟨s0, s1, s2, s3⟩
        go_simp
        with_reducible rfl
      rotate_left
      · simp only [Act.put, List.setIfInBounds_toArray, List.set_cons_zero, List.set_cons_succ, i64_w, i32_w]
        rfl
      refine one_ (i := 16) (N := some 56) #[true, true, true, true, true, true, true, true, true, true, true, true, true, true, true, true, true, false, true, false, false, false] rfl rfl (one_of HT_.out (by kernel_rfl)) (by decide) (fun K hK => ?_)
      refine goes_ Try.func37 (by kernel_rfl) rfl #[.agg #[.bool (ng x), .slice A4 (ln x) c5]] (by rfl) rfl rfl (by (try simp only [List.map_toArray, List.map_cons, List.map_nil]); first | done | rfl) ?_
      with_reducible refine (NegQ (H.row _ m5) (lim bx.out (by decide)) nx hnx.out).mono ?_
      rintro e w41 ⟨A42, c43, rfl, hr, hb⟩
      replace H := H.got hr hb
      clear hr hb
      refine ⟨_, rfl, ?_⟩
      refine hK.out _ _ ⟨H.cell m0 0, H.cell m0 1, H.cell m2 0, H.cell m2 1⟩ (fun hHeld => ?_)
      clear hK K
      refine norm_ (a' := ?_) ?_ ?_
      rotate_left
      · show Act.put _ (some 56) _ = _
        simp only [Act.put, List.setIfInBounds_toArray, List.set_cons_zero, List.set_cons_succ, i64_w, i32_w]
        rfl
      refine one_ (i := 17) (N := some 57) #[true, true, true, true, true, true, true, true, true, true, true, true, true, true, true, true, true, true, true, false, false, false] rfl rfl (one_of HT_.out (by kernel_rfl)) (by decide) (fun K hK => ?_)
      refine goes_ Try.func36 (by kernel_rfl) rfl #[.agg #[.bool (ng nx), .slice A42 (ln nx) c43]] (by rfl) rfl rfl (by (try simp only [List.map_toArray, List.map_cons, List.map_nil]); first | done | rfl) ?_
      with_reducible refine (BitsQ (H.row _ m0) (lim bnx.out (by decide)) n hBn.out).mono ?_
      rintro e w44 ⟨rfl, hb⟩
      replace H := H.call hb
      clear hb
      refine ⟨_, rfl, ?_⟩
      refine hK.out _ _ ⟨H.cell m0 0, H.cell m0 1, H.cell m2 0, H.cell m2 1⟩ (fun hHeld => ?_)
      clear hK K
      refine norm_ (a' := ?_) ?_ ?_
      rotate_left
      · show Act.put _ (some 57) _ = _
        simp only [Act.put, List.setIfInBounds_toArray, List.set_cons_zero, List.set_cons_succ, i64_w, i32_w]
        rfl
      refine pure_ (i := 19) (N := some 59) (v := ?_) (a' := ?_) #[true, true, true, true, true, true, true, true, true, true, true, true, true, true, true, true, true, true, true, true, false, false] rfl rfl (any_of HT_.out (by kernel_rfl)) (fun _ _ _ h => h) (Or.inl ⟨by rfl, ?_⟩) ?_ ?_
      rotate_left
      · intro w'
        go_simp
        with_reducible rfl
      rotate_left
      · simp only [Act.put, List.setIfInBounds_toArray, List.set_cons_zero, List.set_cons_succ, i64_w, i32_w]
        rfl
      refine pure_ (i := 20) (N := some 60) (v := ?_) (a' := ?_) #[true, true, true, true, true, true, true, true, true, true, true, true, true, true, true, true, true, true, true, true, true, false] rfl rfl (any_of HT_.out (by kernel_rfl)) (fun _ _ _ h => h) (Or.inl ⟨by rfl, ?_⟩) ?_ ?_
      rotate_left
      · intro w'
        go_simp
        with_reducible rfl
      rotate_left
      · simp only [Act.put, List.setIfInBounds_toArray, List.set_cons_zero, List.set_cons_succ, i64_w, i32_w]
        rfl
      refine pure_ (i := 21) (N := some 2) (v := ?_) (a' := ?_) #[true, true, true, true, true, true, true, true, true, true, true, true, true, true, true, true, true, true, true, true, true, true] rfl rfl (any_of HT_.out (by kernel_rfl)) (fun _ _ _ h => h) (Or.inl ⟨by rfl, ?_⟩) ?_ ?_
      rotate_left
      · intro w'
        go_simp
        with_reducible rfl
      rotate_left
      · simp only [Act.put, List.setIfInBounds_toArray, List.set_cons_zero, List.set_cons_succ, i64_w, i32_w]
        rfl
      refine done_ (done_of HT_.out (by kernel_rfl)) ?_
      try clear hHeld
      go_wp2
      go_ret
      exact ⟨rfl, H.below⟩

theorem bits_walk (a : ByteArray) (w : World) : Calls Try.prog 6 #[.string a] w (fun e W' => e = .returned (.bool true) ∧ Below w.heap.size w W') := by
  by_cases h : ∃ x y, Both a ⟨#[48]⟩ x y
  · obtain ⟨x, u, h⟩ := h
    by_cases h0 : x = 0
    · subst h0
      exact bits_0 a w 0 u ⟨(both_small h).1⟩ ⟨rfl⟩ ⟨rfl⟩ ⟨two_ok h⟩
    · have hx : x.natAbs ≠ 0 := by omega
      have hb := blen_bounds hx
      have hs := blen_small (both_small h).1
      exact bits_t a w x u ⟨(both_small h).1⟩ _ _ ⟨by omega, by omega⟩ ⟨hx⟩ ⟨by unfold sg; repeat' split <;> omega⟩ ⟨rfl⟩ ⟨rfl⟩ ⟨two_ok h⟩
  · obtain ⟨x, u, h⟩ := two_not a ⟨#[48]⟩ h
    exact bits_f a w x u ⟨h⟩

end Go.Proofs.Ytdkapdgbfejgdaa
