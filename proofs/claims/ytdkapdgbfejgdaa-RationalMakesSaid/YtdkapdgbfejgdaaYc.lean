/- bigint.Bits, Int. -/
import Derived.Test.YtdkapdgbfejgdaaY9
import Derived.Test.YtdkapdgbfejgdaaQ3
import Derived.Lib.ItoaNum
import Derived.Test.YtdkapdgbfejgdaaQ50
/- bigint.Of, Bits, Int. -/
namespace Go.Proofs.Ytdkapdgbfejgdaa
open Go.RowKit Go.Proofs.YtdkapdgbfejgdaaW.PrintWords Go.Proofs.YtdkapdgbfejgdaaW.PrintLast Go.Proofs.YtdkapdgbfejgdaaW.PrintMore
open Go.Proofs.Ytdkapdgbfejgdaa.P
set_option linter.unusedSimpArgs false
set_option linter.unusedVariables false

theorem digits_ok (n : Nat) (hn : n < 18446744073709551616) (r : List Int) (w : World) (ok : Nat → Prop) (hr : dg 4294967296 n = r) : Calls Try.prog 79 #[.int .u64 (n : Int)] w (RetL w ok .u32 r) := by
  have hl : Okd 4294967296 [((n : Int)) % 4294967296, ((n : Int) / 4294967296) % 4294967296] := Okd.cons (by omega) (by omega) (Okd.cons (by omega) (by omega) (Okd.nil _))
  have hv : vl 4294967296 [((n : Int)) % 4294967296, ((n : Int) / 4294967296) % 4294967296] = n := by simp [vl]; omega
  have ht : trimR [((n : Int)) % 4294967296, ((n : Int) / 4294967296) % 4294967296] = r := by
    have := trimR_dg 4294967296 (by omega) _ hl
    rw [this]; show dg 4294967296 (vl 4294967296 _).toNat = r; rw [hv, ← hr]; rfl
  have hf : bigint_digits.f 5 n = some r := by
    unfold bigint_digits.f
    rw [trim_f 5 _ (by simp) (by simp), ht]; rfl
  refine (bigint_digits.calls 5 n r w hf).mono ?_
  rintro e w' ⟨v, rfl, ⟨A', c', rfl, hc, hF⟩, hb⟩
  exact ⟨A', c', rfl, ⟨hc, Kd.F_mono hF (fun _ hk => .inr hk)⟩, hb⟩

theorem u64_mod (n : Int) : IntKind.u64.wrap n = n % 18446744073709551616 := by rw [IntKind.wrap]; simp [IntKind.bits, IntKind.signed]

set_option maxHeartbeats 2000000 in
set_option maxRecDepth 100000 in
theorem Of_ok (n : Int) (w : World) (ok : Nat → Prop) (h0 : -9223372036854775808 ≤ n) (h1 : n ≤ 9223372036854775807) : Calls Try.prog 27 #[.int .i64 n] w (RetI w ok n) := by
  have hu25 := Try.underlying25
  have H := Sit.start w ok
  have hl : (dg 4294967296 n.natAbs).length ≤ 2 := dg_len_le 4294967296 (by omega) _ _ (by omega)
  have HL := Aside0.mk hl
  clear hl
  by_cases hneg : n < 0
  · have e1 : IntKind.u64.wrap (-(IntKind.u64.wrap n)) = ((n.natAbs : Nat) : Int) := by rw [u64_mod, u64_mod]; omega
    have VE := Aside0.mk (show n = if (true : Bool) = true then -(vl 4294967296 (dg 4294967296 n.natAbs)) else vl 4294967296 (dg 4294967296 n.natAbs) by rw [vl_dgn]; simp; omega)
    have hN := Aside0.mk (show n.natAbs < 18446744073709551616 by omega)
    go_enter Try.func27, Try.ntmps27
    go_wp2_with (first
      | ((with_reducible refine gate_dst (N := 2) rfl ?_); refine box_event ?hg (N := 2) ?hd (cs := #[.bool false, .slice none 0 0]) (t := 25) ?hr ?_; (case hd => rfl); (case hg => rfl); (case hr => go_simp; try rfl); intro g hg w1 hbox hb; replace H := H.newbox hg hbox hb; clear hg hbox hb)
      | (go_at_call 79; (with_reducible refine (digits_ok n.natAbs hN.out _ _ (Gd w ok [(g, .cells #[.bool false, .slice none 0 0] 25 (0, 0))]) rfl).mono ?_); rintro e w2 ⟨A2, c2, rfl, hr, hb⟩; replace H := H.got hr hb; clear hr hb)
      | (go_at_call 78; (with_reducible refine (signedN rfl (dg_okd _) (Nat.le_trans HL.out (by omega)) (H.row _ m0) VE.out).mono ?_); rintro e w3 ⟨A3, c3, rfl, hr, hb⟩; replace H := H.got hr hb; clear hr hb; have z0 : w3.cell? ⟨g, 0, none⟩ = some (.bool false) := H.cell (.head _) 0; have z1 : w3.cell? ⟨g, 1, none⟩ = some (.slice none 0 0) := H.cell (.head _) 1; have f0 := H.frozen (g := g) (.head _) 0; have f1 := H.frozen (g := g) (.head _) 1))
    refine bodyPost_ret (results_cell_row rfl _ _ g 25 #[.bool (ng n), .slice A3 (ln n) c3] (0, 0) _ rfl (((H.setn [] 0 (.bool (ng n)) rfl).setn [] 1 (.slice A3 (ln n) c3) rfl).blk (.head _)) Try.underlying25 rfl (by kernel_rfl)) rfl ?_
    replace H := (H.setn [] 0 (.bool (ng n)) rfl).setn [] 1 (.slice A3 (ln n) c3) rfl
    exact ⟨A3, c3, rfl, H.ret (.head _), H.below⟩
  · have e1 : IntKind.u64.wrap n = ((n.natAbs : Nat) : Int) := by rw [u64_mod]; omega
    have VE := Aside0.mk (show n = if (false : Bool) = true then -(vl 4294967296 (dg 4294967296 n.natAbs)) else vl 4294967296 (dg 4294967296 n.natAbs) by rw [vl_dgn]; simp; omega)
    have hN := Aside0.mk (show n.natAbs < 18446744073709551616 by omega)
    go_enter Try.func27, Try.ntmps27
    go_wp2_with (first
      | ((with_reducible refine gate_dst (N := 2) rfl ?_); refine box_event ?hg (N := 2) ?hd (cs := #[.bool false, .slice none 0 0]) (t := 25) ?hr ?_; (case hd => rfl); (case hg => rfl); (case hr => go_simp; try rfl); intro g hg w1 hbox hb; replace H := H.newbox hg hbox hb; clear hg hbox hb)
      | (go_at_call 79; (with_reducible refine (digits_ok n.natAbs hN.out _ _ (Gd w ok [(g, .cells #[.bool false, .slice none 0 0] 25 (0, 0))]) rfl).mono ?_); rintro e w2 ⟨A2, c2, rfl, hr, hb⟩; replace H := H.got hr hb; clear hr hb)
      | (go_at_call 78; (with_reducible refine (signedN rfl (dg_okd _) (Nat.le_trans HL.out (by omega)) (H.row _ m0) VE.out).mono ?_); rintro e w3 ⟨A3, c3, rfl, hr, hb⟩; replace H := H.got hr hb; clear hr hb; have z0 : w3.cell? ⟨g, 0, none⟩ = some (.bool false) := H.cell (.head _) 0; have z1 : w3.cell? ⟨g, 1, none⟩ = some (.slice none 0 0) := H.cell (.head _) 1; have f0 := H.frozen (g := g) (.head _) 0; have f1 := H.frozen (g := g) (.head _) 1))
    refine bodyPost_ret (results_cell_row rfl _ _ g 25 #[.bool (ng n), .slice A3 (ln n) c3] (0, 0) _ rfl (((H.setn [] 0 (.bool (ng n)) rfl).setn [] 1 (.slice A3 (ln n) c3) rfl).blk (.head _)) Try.underlying25 rfl (by kernel_rfl)) rfl ?_
    replace H := (H.setn [] 0 (.bool (ng n)) rfl).setn [] 1 (.slice A3 (ln n) c3) rfl
    exact ⟨A3, c3, rfl, H.ret (.head _), H.below⟩

end Go.Proofs.Ytdkapdgbfejgdaa

/- bigint.Bits, Int. -/
namespace Go.Proofs.Ytdkapdgbfejgdaa
open Go.RowKit Go.Proofs.YtdkapdgbfejgdaaW.PrintWords Go.Proofs.YtdkapdgbfejgdaaW.PrintLast Go.Proofs.YtdkapdgbfejgdaaW.PrintMore
set_option linter.unusedSimpArgs false
set_option linter.unusedVariables false

theorem top_digit {m : Int} (h : m ≠ 0) : ∃ t : Nat, (digs m).getD (ln m - 1) 0 = t ∧ 1 ≤ t ∧ t < 4294967296 ∧ (4294967296 ^ (ln m - 1)) * t ≤ m.natAbs ∧ m.natAbs < (4294967296 ^ (ln m - 1)) * (t + 1) := by
  have hl := ln_pos h
  have hll : (digs m).length = ln m := rfl
  obtain ⟨t0, t1⟩ := (digs_okd m).getD (by omega) (ln m - 1)
  obtain ⟨t, ht⟩ := Int.eq_ofNat_of_zero_le t0
  refine ⟨t, ht, ?_, by omega, ?_⟩
  · have hz := digs_noz m
    have hg : (digs m).getLast? = some ((digs m).getD (ln m - 1) 0) := by
      rw [List.getLast?_eq_getElem?]
      rw [show (digs m).length - 1 = ln m - 1 from rfl, List.getElem?_eq_getElem (by omega)]
      simp [List.getD, show ln m - 1 < (digs m).length by omega]
    have := hz _ hg
    omega
  · have hv := digs_vl m
    rw [vl_at 4294967296 (digs m) (ln m - 1) (by omega), ht, show ln m - 1 + 1 = ln m by omega, List.drop_of_length_le (show (digs m).length ≤ ln m from Nat.le_refl _)] at hv
    have a := vl_nonneg (b := 4294967296) (by omega) ((digs_okd m).take (ln m - 1))
    have b := vl_lt (b := 4294967296) (by omega) ((digs_okd m).take (ln m - 1))
    rw [List.length_take, Nat.min_eq_left (by omega)] at b
    simp only [vl_nil, Int.mul_zero, Int.add_zero] at hv
    have e : ((4294967296 : Int) ^ (ln m - 1)) = ((4294967296 ^ (ln m - 1) : Nat) : Int) := by rw [Int.natCast_pow]; rfl
    rw [e] at hv b
    have e2 : (((4294967296 ^ (ln m - 1) : Nat) : Int) * (t : Int)) = ((4294967296 ^ (ln m - 1) * t : Nat) : Int) := (Int.natCast_mul _ _).symm
    rw [e2] at hv
    rw [Nat.mul_add, Nat.mul_one]
    omega

open Go.Proofs.Ytdkapdgbfejgdaa.P

end Go.Proofs.Ytdkapdgbfejgdaa
