/- bigint.Bits, Int. -/
import Derived.Test.YtdkapdgbfejgdaaY9
import Derived.Test.YtdkapdgbfejgdaaQ3
import Derived.Lib.ItoaNum
import Derived.Test.YtdkapdgbfejgdaaQ50
/- bigint.Of, Bits, Int. -/
namespace Go.Proofs.Ytdkapdgbfejgdaa
open Go.RowKit Go.Proofs.YtdkapdgbfejgdaaW.PrintWords Go.Proofs.YtdkapdgbfejgdaaW.PrintLast Go.Proofs.YtdkapdgbfejgdaaW.PrintMore
open Go.Proofs.Ytdkapdgbfejgdaa.P
set_option linter.unusedSimpArgs false
set_option linter.unusedVariables false

theorem digits_ok (n : Nat) (hn : n < 18446744073709551616) (r : List Int) (w : World) (ok : Nat → Prop) (hr : dg 4294967296 n = r) : Calls Try.prog 79 #[.int .u64 (n : Int)] w (RetL w ok .u32 r) := by
  have hl : Okd 4294967296 [((n : Int)) % 4294967296, ((n : Int) / 4294967296) % 4294967296] := Okd.cons (by omega) (by omega) (Okd.cons (by omega) (by omega) (Okd.nil _))
  have hv : vl 4294967296 [((n : Int)) % 4294967296, ((n : Int) / 4294967296) % 4294967296] = n := by simp [vl]; omega
  have ht : trimR [((n : Int)) % 4294967296, ((n : Int) / 4294967296) % 4294967296] = r := by
    have := trimR_dg 4294967296 (by omega) _ hl
    rw [this]; show dg 4294967296 (vl 4294967296 _).toNat = r; rw [hv, ← hr]; rfl
  have hf : bigint_digits.f 5 n = some r := by
    unfold bigint_digits.f
    rw [trim_f 5 _ (by simp) (by simp), ht]; rfl
  refine (bigint_digits.calls 5 n r w hf).mono ?_
  rintro e w' ⟨v, rfl, ⟨A', c', rfl, hc, hF⟩, hb⟩
  exact ⟨A', c', rfl, ⟨hc, Kd.F_mono hF (fun _ hk => .inr hk)⟩, hb⟩

theorem u64_mod (n : Int) : IntKind.u64.wrap n = n % 18446744073709551616 := by rw [IntKind.wrap]; simp [IntKind.bits, IntKind.signed]

set_option maxHeartbeats 2000000 in
set_option maxRecDepth 100000 in
theorem Of_ok (n : Int) (w : World) (ok : Nat → Prop) (h0 : -9223372036854775808 ≤ n) (h1 : n ≤ 9223372036854775807) : Calls Try.prog 27 #[.int .i64 n] w (RetI w ok n) := by
  have hu25 := Try.underlying25
  have H := Sit.start w ok
  have hl : (dg 4294967296 n.natAbs).length ≤ 2 := dg_len_le 4294967296 (by omega) _ _ (by omega)
  have HL := Aside0.mk hl
  clear hl
  by_cases hneg : n < 0
  · have e1 : IntKind.u64.wrap (-(IntKind.u64.wrap n)) = ((n.natAbs : Nat) : Int) := by rw [u64_mod, u64_mod]; omega
    have VE := Aside0.mk (show n = if (true : Bool) = true then -(vl 4294967296 (dg 4294967296 n.natAbs)) else vl 4294967296 (dg 4294967296 n.natAbs) by rw [vl_dgn]; simp; omega)
    have hN := Aside0.mk (show n.natAbs < 18446744073709551616 by omega)
    go_enter Try.func27, Try.ntmps27
    go_wp2_with (first
      | ((with_reducible refine gate_dst (N := 2) rfl ?_); refine box_event ?hg (N := 2) ?hd (cs := #[.bool false, .slice none 0 0]) (t := 25) ?hr ?_; (case hd => rfl); (case hg => rfl); (case hr => go_simp; try rfl); intro g hg w1 hbox hb; replace H := H.newbox hg hbox hb; clear hg hbox hb)
      | (go_at_call 79; (with_reducible refine (digits_ok n.natAbs hN.out _ _ (Gd w ok [(g, .cells #[.bool false, .slice none 0 0] 25 (0, 0))]) rfl).mono ?_); rintro e w2 ⟨A2, c2, rfl, hr, hb⟩; replace H := H.got hr hb; clear hr hb)
      | (go_at_call 78; (with_reducible refine (signedN rfl (dg_okd _) (Nat.le_trans HL.out (by omega)) (H.row _ m0) VE.out).mono ?_); rintro e w3 ⟨A3, c3, rfl, hr, hb⟩; replace H := H.got hr hb; clear hr hb; have z0 : w3.cell? ⟨g, 0, none⟩ = some (.bool false) := H.cell (.head _) 0; have z1 : w3.cell? ⟨g, 1, none⟩ = some (.slice none 0 0) := H.cell (.head _) 1; have f0 := H.frozen (g := g) (.head _) 0; have f1 := H.frozen (g := g) (.head _) 1))
    refine bodyPost_ret (results_cell_row rfl _ _ g 25 #[.bool (ng n), .slice A3 (ln n) c3] (0, 0) _ rfl (((H.setn [] 0 (.bool (ng n)) rfl).setn [] 1 (.slice A3 (ln n) c3) rfl).blk (.head _)) Try.underlying25 rfl (by kernel_rfl)) rfl ?_
    replace H := (H.setn [] 0 (.bool (ng n)) rfl).setn [] 1 (.slice A3 (ln n) c3) rfl
    exact ⟨A3, c3, rfl, H.ret (.head _), H.below⟩
  · have e1 : IntKind.u64.wrap n = ((n.natAbs : Nat) : Int) := by rw [u64_mod]; omega
    have VE := Aside0.mk (show n = if (false : Bool) = true then -(vl 4294967296 (dg 4294967296 n.natAbs)) else vl 4294967296 (dg 4294967296 n.natAbs) by rw [vl_dgn]; simp; omega)
    have hN := Aside0.mk (show n.natAbs < 18446744073709551616 by omega)
    go_enter Try.func27, Try.ntmps27
    go_wp2_with (first
      | ((with_reducible refine gate_dst (N := 2) rfl ?_); refine box_event ?hg (N := 2) ?hd (cs := #[.bool false, .slice none 0 0]) (t := 25) ?hr ?_; (case hd => rfl); (case hg => rfl); (case hr => go_simp; try rfl); intro g hg w1 hbox hb; replace H := H.newbox hg hbox hb; clear hg hbox hb)
      | (go_at_call 79; (with_reducible refine (digits_ok n.natAbs hN.out _ _ (Gd w ok [(g, .cells #[.bool false, .slice none 0 0] 25 (0, 0))]) rfl).mono ?_); rintro e w2 ⟨A2, c2, rfl, hr, hb⟩; replace H := H.got hr hb; clear hr hb)
      | (go_at_call 78; (with_reducible refine (signedN rfl (dg_okd _) (Nat.le_trans HL.out (by omega)) (H.row _ m0) VE.out).mono ?_); rintro e w3 ⟨A3, c3, rfl, hr, hb⟩; replace H := H.got hr hb; clear hr hb; have z0 : w3.cell? ⟨g, 0, none⟩ = some (.bool false) := H.cell (.head _) 0; have z1 : w3.cell? ⟨g, 1, none⟩ = some (.slice none 0 0) := H.cell (.head _) 1; have f0 := H.frozen (g := g) (.head _) 0; have f1 := H.frozen (g := g) (.head _) 1))
    refine bodyPost_ret (results_cell_row rfl _ _ g 25 #[.bool (ng n), .slice A3 (ln n) c3] (0, 0) _ rfl (((H.setn [] 0 (.bool (ng n)) rfl).setn [] 1 (.slice A3 (ln n) c3) rfl).blk (.head _)) Try.underlying25 rfl (by kernel_rfl)) rfl ?_
    replace H := (H.setn [] 0 (.bool (ng n)) rfl).setn [] 1 (.slice A3 (ln n) c3) rfl
    exact ⟨A3, c3, rfl, H.ret (.head _), H.below⟩

end Go.Proofs.Ytdkapdgbfejgdaa

/- bigint.Bits, Int. -/
namespace Go.Proofs.Ytdkapdgbfejgdaa
open Go.RowKit Go.Proofs.YtdkapdgbfejgdaaW.PrintWords Go.Proofs.YtdkapdgbfejgdaaW.PrintLast Go.Proofs.YtdkapdgbfejgdaaW.PrintMore
set_option linter.unusedSimpArgs false
set_option linter.unusedVariables false

/-- The number of binary digits. -/
def blen (n : Nat) : Nat := if n = 0 then 0 else Nat.log2 n + 1
theorem blen_eq {n k : Nat} (h0 : 1 ≤ k) (h1 : 2 ^ (k - 1) ≤ n) (h2 : n < 2 ^ k) : blen n = k := by
  have hn : n ≠ 0 := by have := Nat.two_pow_pos (k - 1); omega
  unfold blen
  rw [if_neg hn]
  have a := Nat.log2_self_le hn
  have b := @Nat.lt_log2_self n
  have c : 2 ^ (k - 1) < 2 ^ (n.log2 + 1) := by omega
  have d : 2 ^ n.log2 < 2 ^ k := by omega
  have c' := (Nat.pow_lt_pow_iff_right (by omega)).mp c
  have d' := (Nat.pow_lt_pow_iff_right (by omega)).mp d
  omega
theorem blen_bounds {n : Nat} (hn : n ≠ 0) : 1 ≤ blen n ∧ 2 ^ (blen n - 1) ≤ n ∧ n < 2 ^ blen n := by
  unfold blen
  rw [if_neg hn]
  exact ⟨by omega, by simpa using Nat.log2_self_le hn, Nat.lt_log2_self⟩

theorem top_digit {m : Int} (h : m ≠ 0) : ∃ t : Nat, (digs m).getD (ln m - 1) 0 = t ∧ 1 ≤ t ∧ t < 4294967296 ∧ (4294967296 ^ (ln m - 1)) * t ≤ m.natAbs ∧ m.natAbs < (4294967296 ^ (ln m - 1)) * (t + 1) := by
  have hl := ln_pos h
  have hll : (digs m).length = ln m := rfl
  obtain ⟨t0, t1⟩ := (digs_okd m).getD (by omega) (ln m - 1)
  obtain ⟨t, ht⟩ := Int.eq_ofNat_of_zero_le t0
  refine ⟨t, ht, ?_, by omega, ?_⟩
  · have hz := digs_noz m
    have hg : (digs m).getLast? = some ((digs m).getD (ln m - 1) 0) := by
      rw [List.getLast?_eq_getElem?]
      rw [show (digs m).length - 1 = ln m - 1 from rfl, List.getElem?_eq_getElem (by omega)]
      simp [List.getD, show ln m - 1 < (digs m).length by omega]
    have := hz _ hg
    omega
  · have hv := digs_vl m
    rw [vl_at 4294967296 (digs m) (ln m - 1) (by omega), ht, show ln m - 1 + 1 = ln m by omega, List.drop_of_length_le (show (digs m).length ≤ ln m from Nat.le_refl _)] at hv
    have a := vl_nonneg (b := 4294967296) (by omega) ((digs_okd m).take (ln m - 1))
    have b := vl_lt (b := 4294967296) (by omega) ((digs_okd m).take (ln m - 1))
    rw [List.length_take, Nat.min_eq_left (by omega)] at b
    simp only [vl_nil, Int.mul_zero, Int.add_zero] at hv
    have e : ((4294967296 : Int) ^ (ln m - 1)) = ((4294967296 ^ (ln m - 1) : Nat) : Int) := by rw [Int.natCast_pow]; rfl
    rw [e] at hv b
    have e2 : (((4294967296 ^ (ln m - 1) : Nat) : Int) * (t : Int)) = ((4294967296 ^ (ln m - 1) * t : Nat) : Int) := (Int.natCast_mul _ _).symm
    rw [e2] at hv
    rw [Nat.mul_add, Nat.mul_one]
    omega

theorem blen_digs {m : Int} (h : m ≠ 0) {t : Nat} (ht : (digs m).getD (ln m - 1) 0 = t) : 32 * (ln m - 1) + Lib.bitLen t = blen m.natAbs ∧ t < 4294967296 ∧ Lib.bitLen t ≤ 32 := by
  obtain ⟨t', ht', a, b, c, d⟩ := top_digit h
  have : t = t' := by rw [ht] at ht'; exact_mod_cast ht'
  subst this
  obtain ⟨x, y, z⟩ := Lib.bitLenAux_bounds 64 t (by omega) (by omega)
  refine ⟨?_, b, Lib.bitLen_le t 32 (by omega) b⟩
  refine (blen_eq ?_ ?_ ?_).symm
  · unfold Lib.bitLen; omega
  · have e : 32 * (ln m - 1) + Lib.bitLen t - 1 = 32 * (ln m - 1) + (Lib.bitLenAux 64 t - 1) := by unfold Lib.bitLen; omega
    rw [e, Nat.pow_add, Nat.pow_mul]
    exact Nat.le_trans (Nat.mul_le_mul_left _ y) c
  · rw [Nat.pow_add, Nat.pow_mul]
    exact Nat.lt_of_lt_of_le d (Nat.mul_le_mul_left _ z)

theorem LenI (t : Nat) (h : t < 4294967296) (w : World) : Calls Try.prog 85 #[.int .u32 (t : Int)] w fun e w' => e = .returned (.int .i64 (Lib.bitLen t : Nat)) ∧ w = w' := by
  have h1 := Try.bits_Len32 (t : Int) w (by omega) (by omega)
  exact h1.mono fun _ _ ⟨a, b⟩ => ⟨a, b.symm⟩

set_option maxHeartbeats 2000000 in
set_option maxRecDepth 100000 in
theorem Bits_ok (A : Option Addr) (c : Nat) (m : Int) (w : World) (ok : Nat → Prop) (hf : (bw A c m).at w ok) (hm : ln m ≤ 10000000) :
    Calls Try.prog 36 #[.agg #[.bool (ng m), .slice A (ln m) c]] w (RetI64 (blen m.natAbs : Nat) w) := by
  have hu25 := Try.underlying25
  have H := (Sit.start w ok).arg hf
  by_cases h0 : m = 0
  · have E := Aside0.mk (show blen m.natAbs = 0 by rw [h0]; rfl)
    have p1 : ((ln m : Int) == 0) = true := by rw [h0]; rfl
    have p2 : (ln m == 0) = true := by rw [h0]; rfl
    clear h0 hf
    go_enter Try.func36, Try.ntmps36
    go_wp2_with ((with_reducible refine gate_dst (N := 1) rfl ?_); refine box_event ?hg (N := 1) ?hd (cs := #[.bool (ng m), .slice A (ln m) c]) (t := 25) ?hr ?_; (case hd => rfl); (case hg => rfl); (case hr => go_simp; try rfl); intro g1 hg w1 hbox hb; replace H := H.newbox hg hbox hb; clear hg hbox hb; have k0 : w1.cell? ⟨g1, 0, none⟩ = some (.bool (ng m)) := H.cell m0 0; have k1 : w1.cell? ⟨g1, 1, none⟩ = some (.slice A (ln m) c) := H.cell m0 1)
    go_ret
    exact ⟨by rw [E.out]; rfl, H.below⟩
  · have l0 := ln_pos h0
    have p1 : ((ln m : Int) == 0) = false := by simp; omega
    have p2 : (ln m == 0) = false := by simp; omega
    obtain ⟨ad, ea, ra⟩ := H.read (f := bw A c m) m0 (ln m - 1) (by show ln m - 1 < ln m; omega)
    simp only [bw] at ea ra
    subst ea
    obtain ⟨t, ht, -⟩ := top_digit h0
    rw [ht] at ra
    obtain ⟨b1, b2, b3⟩ := blen_digs h0 ht
    have E := Aside0.mk b1
    clear h0 ht b1 hf
    go_enter Try.func36, Try.ntmps36
    go_wp2_with (first
      | ((with_reducible refine gate_dst (N := 1) rfl ?_); refine box_event ?hg (N := 1) ?hd (cs := #[.bool (ng m), .slice (some ad) (ln m) c]) (t := 25) ?hr ?_; (case hd => rfl); (case hg => rfl); (case hr => go_simp; try rfl); intro g1 hg w1 hbox hb; replace H := H.newbox hg hbox hb; replace ra := (hb.cell (World.block_lt_of_cell? w _ ra)).trans ra; clear hg hbox hb; have k0 : w1.cell? ⟨g1, 0, none⟩ = some (.bool (ng m)) := H.cell m0 0; have k1 : w1.cell? ⟨g1, 1, none⟩ = some (.slice (some ad) (ln m) c) := H.cell m0 1)
      | (go_at_call 85; (with_reducible refine (LenI t b2 _).mono ?_); rintro e w2 ⟨rfl, rfl⟩))
    go_ret
    refine ⟨?_, H.below⟩
    have hE := E.out
    have e : 32 * ((ln m : Int) - 1) + (Lib.bitLen t : Nat) = (blen m.natAbs : Nat) := by omega
    rw [← e]; rfl


open Go.Proofs.Ytdkapdgbfejgdaa.P

theorem join64b {a b : Int} (a0 : 0 ≤ a) (a1 : a < 4294967296) (b0 : 0 ≤ b) (b1 : b < 4294967296) : Go.bits .or .u64 a (b * 4294967296) = b * 4294967296 + a := by
  obtain ⟨A, rfl⟩ := Int.eq_ofNat_of_zero_le a0
  obtain ⟨B, hB⟩ := Int.eq_ofNat_of_zero_le (show 0 ≤ b * 4294967296 by omega)
  have h1 := (bits_nat .u64 64 (by decide) (fun n h0 h1 => u64_id h0 h1) A B (by omega) (by omega)).2
  have h2 := (bits_nat .u64 64 (by decide) (fun n h0 h1 => u64_id h0 h1) B A (by omega) (by omega)).2
  rw [hB, h1, Nat.or_comm, ← h2, ← hB]
  exact join64 b0 b1 a0 a1
theorem or_zero64 {a : Int} (a0 : 0 ≤ a) (a1 : a < 4294967296) : Go.bits .or .u64 0 a = a := by
  have := join64 (r := 0) (x := a) (by omega) (by omega) a0 a1
  simpa using this

/-- The int, where m is one. -/
def fitsI (m : Int) : Bool := decide (-9223372036854775808 ≤ m ∧ m ≤ 9223372036854775807)
def intOfI (m : Int) : Int := if -9223372036854775808 ≤ m ∧ m ≤ 9223372036854775807 then m else 0

theorem Int_j1 (m v : Int) (l : List Int) (k : Nat) (hv : v = m.natAbs) (h64 : v < 18446744073709551616) :
    (if ng m = true then bigint_Int_Int.j1 (k + 1) v (decide (v ≤ 9223372036854775808)) (ng m) l else bigint_Int_Int.j1 (k + 1) v false (ng m) l) = some (intOfI m, fitsI m) := by
  unfold ng
  by_cases hn : m < 0
  · have e1 : decide (m < 0) = true := by simpa using hn
    rw [e1, if_pos rfl]
    simp only [bigint_Int_Int.j1]
    by_cases h : v ≤ 9223372036854775808
    · rw [if_pos (by simpa using h)]
      have e2 : wrap64 (IntKind.u64.wrap (-v)) = m := by rw [u64_mod]; unfold wrap64; omega
      unfold intOfI fitsI
      rw [e2, if_pos (by omega), decide_eq_true (by omega)]
    · rw [if_neg (by simpa using h), if_pos trivial]
      unfold intOfI fitsI
      rw [if_neg (by omega), decide_eq_false (by omega)]
  · have e1 : decide (m < 0) = false := by simpa using hn
    rw [e1, if_neg (by simp)]
    simp only [bigint_Int_Int.j1]
    rw [if_neg (by simp), if_neg (by simp)]
    by_cases h : v < 9223372036854775808
    · rw [if_pos h]
      have e2 : wrap64 v = m := by unfold wrap64; omega
      unfold intOfI fitsI
      rw [e2, if_pos (by omega), decide_eq_true (by omega)]
    · rw [if_neg h]
      unfold intOfI fitsI
      rw [if_neg (by omega), decide_eq_false (by omega)]

theorem Int_f (m : Int) : bigint_Int_Int.f 5 (ng m) (digs m) = some (intOfI m, fitsI m) := by
  have hv := digs_vl m
  have ho := digs_okd m
  have hge := fun h => vl_ge (b := 4294967296) (by omega) ho (digs_noz m) h
  unfold bigint_Int_Int.f
  obtain ⟨l, hl⟩ : ∃ l, digs m = l := ⟨_, rfl⟩
  rw [hl] at hv ho hge ⊢
  match l, hv, ho, hge with
  | [], hv, ho, hge =>
    rw [if_neg (by simp)]
    simp only [bigint_Int_Int.l0]
    rw [if_neg (by simp)]
    exact Int_j1 m 0 [] 3 (by simpa [vl] using hv) (by omega)
  | [a], hv, ho, hge =>
    have ha := ho.head
    rw [if_neg (by simp)]
    simp only [bigint_Int_Int.l0]
    rw [if_pos (by simp), if_pos (by simp), if_pos (by simp), if_pos (by unfold wrap64; simp)]
    have e1 : rd [a] 0 = a := rfl
    have e2 : shl .u64 (IntKind.u64.wrap a) (wrap64 (32 * 0)) = a := by
      rw [u64_id ha.1 (by omega)]; unfold shl wrap64; simp; exact u64_id ha.1 (by omega)
    rw [e1, e2, or_zero64 ha.1 ha.2]
    have e3 : wrap64 (0 + 1) = 1 := by unfold wrap64; rfl
    rw [e3, if_neg (by simp)]
    exact Int_j1 m a [a] 2 (by simpa [vl] using hv) (by omega)
  | [a, b], hv, ho, hge =>
    have ha := ho.head
    have hb := ho.tail.head
    rw [if_neg (by simp)]
    simp only [bigint_Int_Int.l0]
    rw [if_pos (by simp), if_pos (by simp), if_pos (by simp), if_pos (by unfold wrap64; simp)]
    have e1 : rd [a, b] 0 = a := rfl
    have e2 : shl .u64 (IntKind.u64.wrap a) (wrap64 (32 * 0)) = a := by
      rw [u64_id ha.1 (by omega)]; unfold shl wrap64; simp; exact u64_id ha.1 (by omega)
    have e3 : wrap64 (0 + 1) = 1 := by unfold wrap64; rfl
    have e4 : rd [a, b] 1 = b := rfl
    have e5 : shl .u64 (IntKind.u64.wrap b) (wrap64 (32 * 1)) = b * 4294967296 := by
      rw [u64_id hb.1 (by omega)]; unfold shl wrap64; simp [IntKind.bits]; exact u64_id (by omega) (by omega)
    have e6 : wrap64 (1 + 1) = 2 := by unfold wrap64; rfl
    rw [e1, e2, or_zero64 ha.1 ha.2, e3, if_pos (by simp), if_pos (by simp), if_pos (by simp), if_pos (by unfold wrap64; simp), e4, e5, join64b ha.1 ha.2 hb.1 hb.2, e6, if_neg (by simp)]
    exact Int_j1 m (b * 4294967296 + a) [a, b] 1 (by simp [vl] at hv; omega) (by omega)
  | a :: b :: c :: r, hv, ho, hge =>
    rw [if_pos (by simp; omega)]
    have h1 := hge (by simp)
    have h2 : (4294967296 : Int) ^ 2 ≤ 4294967296 ^ ((a :: b :: c :: r).length - 1) := pow_mono (by omega) (by simp)
    have h3 : (4294967296 : Int) ^ 2 = 18446744073709551616 := by decide
    unfold intOfI fitsI
    rw [if_neg (by omega), decide_eq_false (by omega)]

/-- It returns an int and whether it fits. -/
def RetIB (r : Int) (b : Bool) (w : World) (e : Ending) (w' : World) : Prop := e = .returned (.tuple #[.int .i64 r, .bool b]) ∧ Below w.heap.size w w'

theorem Int_ok (A : Option Addr) (c : Nat) (m : Int) (w : World) (ok : Nat → Prop) (hf : (bw A c m).at w ok) :
    Calls Try.prog 29 #[.agg #[.bool (ng m), .slice A (ln m) c]] w (RetIB (intOfI m) (fitsI m) w) :=
  (bigint_Int_Int.calls 5 (ng m) A c (digs m) _ _ w (Kd.F_now hf.2) hf.1 (Int_f m)).mono fun _ _ h => h
end Go.Proofs.Ytdkapdgbfejgdaa
