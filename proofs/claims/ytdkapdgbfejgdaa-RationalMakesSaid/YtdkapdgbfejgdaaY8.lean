/- bigint.Int.Mul: the product. -/
import Derived.Test.YtdkapdgbfejgdaaSq
import Derived.Test.YtdkapdgbfejgdaaY2
import Derived.Test.YtdkapdgbfejgdaaY3
import Derived.Test.YtdkapdgbfejgdaaY4
/- bigint.sub and bigint.Int.Add, Sub, Cmp, Sign. -/
set_option linter.unusedVariables false
set_option linter.unusedSimpArgs false
namespace Go.Proofs.Ytdkapdgbfejgdaa
open Go.RowKit Go.Proofs.YtdkapdgbfejgdaaW.PrintWords Go.Proofs.YtdkapdgbfejgdaaW.PrintLast Go.Proofs.YtdkapdgbfejgdaaW.PrintMore

/-- The borrow and the row after k digits of a difference. -/
def SubInv (X Y o : List Int) (k : Nat) (bv : Int) : Prop :=
  o.length = X.length ∧ Okd 4294967296 o ∧ k ≤ X.length ∧ 0 ≤ bv ∧ bv ≤ 1 ∧ vl 4294967296 (o.take k) - 4294967296 ^ k * bv = vl 4294967296 (X.take k) - vl 4294967296 (Y.take k)

theorem SubInv.step {X Y o : List Int} {k : Nat} {bv x y : Int} (h : SubInv X Y o k bv) (hk : k < X.length) (hx : X.getD k 0 = x) (hy : Y.getD k 0 = y) (x0 : 0 ≤ x) (x1 : x < 4294967296) (y0 : 0 ≤ y) (y1 : y < 4294967296) :
    SubInv X Y (o.set k ((x - y - bv) % 4294967296)) (k + 1) (if x < y + bv then 1 else 0) := by
  obtain ⟨h1, h2, h3, h4, h5, h6⟩ := h
  refine ⟨by simp [h1], h2.set k (by omega) (by omega), by omega, by split <;> omega, by split <;> omega, ?_⟩
  rw [vl_set_take _ _ _ _ (by omega), vl_take_succ, vl_take_succ, hx, hy, Int.pow_succ]
  have e : (x - y - bv) % 4294967296 - 4294967296 * (if x < y + bv then 1 else 0) = x - y - bv := by split <;> omega
  have e2 : (4294967296 : Int) ^ k * ((x - y - bv) % 4294967296) - 4294967296 ^ k * 4294967296 * (if x < y + bv then 1 else 0) = 4294967296 ^ k * (x - y - bv) := by
    rw [Int.mul_assoc, ← Int.mul_sub, e]
  rw [Int.mul_sub, Int.mul_sub] at e2
  omega

theorem SubInv.stop {X Y o : List Int} {bv : Int} (h : SubInv X Y o X.length bv) (hle : vl 4294967296 Y ≤ vl 4294967296 X) (hl : Y.length ≤ X.length) : vl 4294967296 o = vl 4294967296 X - vl 4294967296 Y := by
  obtain ⟨h1, h2, h3, h4, h5, h6⟩ := h
  rw [List.take_of_length_le (by omega), List.take_of_length_le (by omega), List.take_of_length_le (by omega)] at h6
  have c := vl_lt (b := 4294967296) (by omega) h2
  rw [h1] at c
  by_cases hc : bv = 0
  · subst hc; simp at h6; exact h6
  · have : bv = 1 := by omega
    subst this; omega

set_option maxHeartbeats 4000000 in
set_option maxRecDepth 100000 in
theorem sub_ok (A0 A1 : Option Addr) (c0 c1 : Nat) (l0 l1 r : List Int) (w : World) (ok : Nat → Prop) (h0 : Okd 4294967296 l0) (h1 : Okd 4294967296 l1) (n0 : l0.length ≤ 100000000) (hll : l1.length ≤ l0.length) (hle : vl 4294967296 l1 ≤ vl 4294967296 l0)
    (hf0 : (⟨.u32, A0, c0, l0⟩ : Rw).at w ok) (hf1 : (⟨.u32, A1, c1, l1⟩ : Rw).at w ok) (hr : dg 4294967296 (vl 4294967296 l0 - vl 4294967296 l1).toNat = r) :
    Calls Try.prog 82 #[.slice A0 l0.length c0, .slice A1 l1.length c1] w (RetL w ok .u32 r) := by
  have H := ((Sit.start w ok).arg hf0).arg hf1
  clear hf0 hf1
  have HR := Aside0.mk hr
  clear hr
  have HLE := Aside0.mk hle
  clear hle
  go_enter Try.func82, Try.ntmps82
  go_wp2_with ((with_reducible refine gate_dst (N := 11) rfl ?_); refine make_event rfl (N := 11) rfl 23 (.tmp 10) (.tmp 10) rfl .u32 93 4 l0.length rfl rfl Try.underlying23 info93 (by omega) (by omega) ?_; intro g hg w1 hbox hb; replace H := H.newbox hg hbox hb; clear hg hbox hb)
  have hI : SubInv l0 l1 (List.replicate l0.length 0) 0 0 := ⟨by simp, Okd.replicate (by omega) _, by omega, by omega, by omega, by simp [vl]⟩
  go_loopw [6, 14] (fun c i wr => ∃ (k : Nat) (cv : Int) (o : List Int), i = .int .i64 k ∧ c = .int .u32 cv ∧ SubInv l0 l1 o k cv ∧ Sit w wr ok [(g, .cells (o.map (Value.int .u32)).toArray 93 (0, 0))] [⟨.u32, A1, c1, l1⟩, ⟨.u32, A0, c0, l0⟩]) (fun _ i _ => l0.length - (intOf i).toNat)
  case atStart => exact ⟨0, 0, _, rfl, rfl, hI, H⟩
  case round =>
    clear H hI
    obtain ⟨k, cv, o, rfl, rfl, hI, H⟩ := hrel
    obtain ⟨i1, i2, i3, i4, i5, -⟩ := id hI
    by_cases hk : k < l0.length
    · have bx := h0.getD (by omega) k
      have by_ := h1.getD (by omega) k
      obtain ⟨x, hx⟩ : ∃ x, l0.getD k 0 = x := ⟨_, rfl⟩
      obtain ⟨y, hy⟩ : ∃ y, l1.getD k 0 = y := ⟨_, rfl⟩
      rw [hx] at bx
      rw [hy] at by_
      obtain ⟨x0, x1⟩ := bx
      obtain ⟨y0, y1⟩ := by_
      have z0 : wr.cell? ⟨g, k, none⟩ = some (.int .u32 (o.getD k 0)) := (H.cell (.head _) k).trans (by simp [List.getD]; rw [List.getElem?_eq_getElem (by omega)]; simp)
      have z1 := H.frozen (g := g) (.head _) k
      have T := Aside0.mk (hI.step hk hx hy x0 x1 y0 y1)
      clear hI
      obtain ⟨ax, ex, rx⟩ := H.read (f := ⟨.u32, A0, c0, l0⟩) (.tail _ (.head _)) k hk
      simp only at ex rx
      subst ex
      rw [hx] at rx
      by_cases hky : k < l1.length
      · obtain ⟨ay, ey, ry⟩ := H.read (f := ⟨.u32, A1, c1, l1⟩) (.head _) k hky
        simp only at ey ry
        subst ey
        rw [hy] at ry
        clear hx hy
        go_wp2_with (go_at_call 99; refine (Sub32_ok x y cv _ x0 x1 y0 y1 i4 i5).mono ?_; rintro e w4 ⟨rfl, rfl⟩; generalize (if x < y + cv then (1 : Int) else 0) = bo at T)
        go_roundw
        case rel => exact ⟨k + 1, _, _, by go_num, rfl, T.out, H.setn [] k _ (by simp [List.map_set])⟩
        case measure => simp [intOf]; omega
      · have hy' : y = 0 := by rw [← hy]; simp [List.getD]; rw [List.getElem?_eq_none (by omega)]; rfl
        clear hx hy
        subst hy'
        go_wp2_with (go_at_call 99; refine (Sub32_ok x 0 cv _ x0 x1 y0 y1 i4 i5).mono ?_; rintro e w4 ⟨rfl, rfl⟩; generalize (if x < 0 + cv then (1 : Int) else 0) = bo at T)
        go_roundw
        case rel => exact ⟨k + 1, _, _, by go_num, rfl, T.out, H.setn [] k _ (by simp [List.map_set])⟩
        case measure => simp [intOf]; omega
    · have ek : k = l0.length := by omega
      subst ek
      have H2 := Aside0.mk (show trimR o = r by
        have := trimR_dg 4294967296 (by omega) o i2
        rw [this]; show dg 4294967296 (vl 4294967296 o).toNat = _; rw [hI.stop HLE.out hll]; exact HR.out)
      clear hI
      go_wp2_with ((with_reducible refine gate_callee (f := 97) rfl ?_); refine goesL_ (some 40) rfl rfl Try.func97 (by kernel_rfl) rfl #[.slice (some ⟨g, 0, none⟩) l0.length l0.length] rfl (by simp only [List.map_toArray, List.map_cons, List.map_nil]; try rfl) ?_; refine (trim_ok (some ⟨g, 0, none⟩) l0.length l0.length o _ _ (fun j => j = g) i1 (by omega) (box_row (H.blk (.head _)) i1 (Nat.le_refl _) (by omega)) H2.out).mono ?_; rintro e w3 ⟨A3, c3, rfl, hr, hb⟩; refine ⟨_, rfl, ?_⟩)
      go_ret
      refine ⟨A3, c3, rfl, hr.mono ?_, (H.call hb).below⟩
      rintro j (rfl | hj)
      · exact .inr (H.box _ (.head _)).2
      · exact .inr (Nat.le_trans (below_size H.below) hj)

end Go.Proofs.Ytdkapdgbfejgdaa

/- bigint.Int: Add, Sub, Cmp, Sign, by their contracts. -/
set_option linter.unusedVariables false
set_option linter.unusedSimpArgs false
namespace Go.Proofs.Ytdkapdgbfejgdaa
open Go.RowKit Go.Proofs.YtdkapdgbfejgdaaW.PrintWords Go.Proofs.YtdkapdgbfejgdaaW.PrintLast Go.Proofs.YtdkapdgbfejgdaaW.PrintMore

theorem digs_noz (m : Int) : NoZ (digs m) := dg_noz 4294967296 (by omega) _
theorem ln_bound (s : Int) (k : Nat) (h : s.natAbs < 4294967296 ^ k) : ln s ≤ k := dg_len_le 4294967296 (by omega) _ _ h
theorem ln_lt (m : Int) : m.natAbs < 4294967296 ^ ln m := dg_lt 4294967296 (by omega) _
theorem pow_le_nat {m n : Nat} (h : m ≤ n) : 4294967296 ^ m ≤ 4294967296 ^ n := Nat.pow_le_pow_right (by omega) h
theorem ln_add_le (a b : Nat) (m n : Int) (hm : ln m ≤ a) (hn : ln n ≤ b) (s : Nat) (hs : s ≤ m.natAbs + n.natAbs) : (dg 4294967296 s).length ≤ max a b + 1 := by
  refine dg_len_le 4294967296 (by omega) _ _ ?_
  have h1 := ln_lt m
  have h2 := ln_lt n
  have h3 : 4294967296 ^ ln m ≤ 4294967296 ^ max a b := pow_le_nat (by omega)
  have h4 : 4294967296 ^ ln n ≤ 4294967296 ^ max a b := pow_le_nat (by omega)
  rw [Nat.pow_succ]
  omega
theorem sub_len {m n : Int} (h : n.natAbs ≤ m.natAbs) : (digs n).length ≤ (digs m).length := by
  refine dg_len_le 4294967296 (by omega) _ _ ?_
  have := dg_lt 4294967296 (by omega) m.natAbs
  show n.natAbs < 4294967296 ^ (dg 4294967296 m.natAbs).length
  omega
theorem addI {A A' : Option Addr} {c c' : Nat} {m n : Int} {w : World} {ok : Nat → Prop} (hf : (bw A c m).at w ok) (hf' : (bw A' c' n).at w ok) (hm : ln m ≤ 10000000) (hn : ln n ≤ 10000000) (r : List Int) (hr : dg 4294967296 (m.natAbs + n.natAbs) = r) :
    Calls Try.prog 80 #[.slice A (ln m) c, .slice A' (ln n) c'] w (RetL w ok .u32 r) :=
  add_ok A A' c c' (digs m) (digs n) r w ok (digs_okd m) (digs_okd n) (Nat.le_trans hm (by omega)) (Nat.le_trans hn (by omega)) hf hf' (by rw [digs_vl, digs_vl, ← hr]; congr 1)
theorem subI {A A' : Option Addr} {c c' : Nat} {m n : Int} {w : World} {ok : Nat → Prop} (hf : (bw A c m).at w ok) (hf' : (bw A' c' n).at w ok) (hm : ln m ≤ 10000000) (hle : n.natAbs ≤ m.natAbs) (r : List Int) (hr : dg 4294967296 (m.natAbs - n.natAbs) = r) :
    Calls Try.prog 82 #[.slice A (ln m) c, .slice A' (ln n) c'] w (RetL w ok .u32 r) :=
  sub_ok A A' c c' (digs m) (digs n) r w ok (digs_okd m) (digs_okd n) (Nat.le_trans hm (by omega)) (sub_len hle) (by rw [digs_vl, digs_vl]; omega) hf hf' (by rw [digs_vl, digs_vl, ← hr]; congr 1; omega)
theorem compareI {A A' : Option Addr} {c c' : Nat} {m n : Int} {w : World} {ok : Nat → Prop} (hf : (bw A c m).at w ok) (hf' : (bw A' c' n).at w ok) (hm : ln m ≤ 10000000) (r : Int) (hr : cmp3 m.natAbs n.natAbs = r) :
    Calls Try.prog 81 #[.slice A (ln m) c, .slice A' (ln n) c'] w (RetI64 r w) :=
  compare_ok A A' c c' (digs m) (digs n) w ok r (digs_okd m) (digs_okd n) (digs_noz m) (digs_noz n) (Nat.le_trans hm (by omega)) hf hf' (by rw [digs_vl, digs_vl]; exact hr)
theorem vl_dgn (k : Nat) : vl 4294967296 (dg 4294967296 k) = k := dg_vl 4294967296 (by omega) k
theorem dg_okd (k : Nat) : Okd 4294967296 (dg 4294967296 k) := dg_ok 4294967296 (by omega) k

set_option maxHeartbeats 2000000 in
set_option maxRecDepth 100000 in
theorem Add_same (A A' : Option Addr) (c c' : Nat) (m n : Int) (w : World) (ok : Nat → Prop) (hf : (bw A c m).at w ok) (hf' : (bw A' c' n).at w ok) (hm : ln m ≤ 10000000) (hn : ln n ≤ 10000000) (hs : ng m = ng n) : Calls Try.prog 28 #[.agg #[.bool (ng m), .slice A (ln m) c], .agg #[.bool (ng n), .slice A' (ln n) c']] w (RetI w ok (m + n)) := by
  have LE := Aside0.mk (show (dg 4294967296 (m.natAbs + n.natAbs)).length ≤ 10000001 from Nat.le_trans (ln_add_le 10000000 10000000 m n hm hn _ (by omega)) (by omega))
  have VE := Aside0.mk (show m + n = if (ng m) = true then -(vl 4294967296 (dg 4294967296 (m.natAbs + n.natAbs))) else vl 4294967296 (dg 4294967296 (m.natAbs + n.natAbs)) by
    rw [vl_dgn]
    unfold ng at hs ⊢
    by_cases a : m < 0 <;> by_cases b : n < 0 <;> simp [a, b] at hs ⊢ <;> omega)
  have hd : (ng m == ng n) = true := by simpa using hs
  clear hs
  have hu25 := Try.underlying25
  have H := ((Sit.start w ok).arg hf).arg hf'
  clear hf hf'
  go_enter Try.func28, Try.ntmps28
  go_wp2_with (first
    | ((with_reducible refine gate_dst (N := 2) rfl ?_); refine bE #[.bool (ng m), .slice A (ln m) c] 25 H ?_; clear H; intro g1 w1 H)
    | ((with_reducible refine gate_dst (N := 3) rfl ?_); refine bE #[.bool (ng n), .slice A' (ln n) c'] 25 H ?_; clear H; intro g2 w2 H)
    | ((with_reducible refine gate_dst (N := 4) rfl ?_); refine bE #[.bool false, .slice none 0 0] 25 H ?_; clear H; intro g3 w3 H; have kx_0 : w3.cell? ⟨g1, 0, none⟩ = some (.bool (ng m)) := H.cell m2 0; have kx_1 : w3.cell? ⟨g1, 1, none⟩ = some (.slice A (ln m) c) := H.cell m2 1; have ky_0 : w3.cell? ⟨g2, 0, none⟩ = some (.bool (ng n)) := H.cell m1 0; have ky_1 : w3.cell? ⟨g2, 1, none⟩ = some (.slice A' (ln n) c') := H.cell m1 1))
  go_region_held3 (fun w' => w'.cell? ⟨g1, 0, none⟩ = some (.bool (ng m)) ∧ w'.cell? ⟨g1, 1, none⟩ = some (.slice A (ln m) c) ∧ w'.cell? ⟨g2, 0, none⟩ = some (.bool (ng n)) ∧ w'.cell? ⟨g2, 1, none⟩ = some (.slice A' (ln n) c')) (first
      | exact (H.c2 m2 (H.d2 m1))
      | (have H' := (H.setn [] 0 (.bool (ng (m + n))) rfl).setn [] 1 (.slice A5 (ln (m + n)) c5) rfl; exact ⟨H'.cell m2 0, H'.cell m2 1, H'.cell m1 0, H'.cell m1 1⟩))
    (first
     | (go_at_call 80; refine (addI (H.drew.row _ m1) (H.drew.row _ m0) hm hn (dg 4294967296 (m.natAbs + n.natAbs)) rfl).mono ?_; rintro e w4 ⟨A4, c4, rfl, hr, hb⟩; replace H := H.drew.got hr hb; clear hr hb)
     | (go_at_call 78; refine (signed_ok (ng m) A4 c4 (dg 4294967296 (m.natAbs + n.natAbs)) (m + n) _ _ (dg_okd _) (by have := LE.out; omega) (H.row _ (.head _)) (VE.out)).mono ?_; rintro e w5 ⟨A5, c5, rfl, hr, hb⟩; replace H := H.got hr hb; clear hr hb; have z_0 : w5.cell? ⟨g3, 0, none⟩ = some (.bool false) := H.cell m0 0; have z_1 : w5.cell? ⟨g3, 1, none⟩ = some (.slice none 0 0) := H.cell m0 1; have zz_0 := H.frozen (g := g3) m0 0; have zz_1 := H.frozen (g := g3) m0 1))
  go_wp2
  refine bodyPost_ret (results_cell_row rfl _ _ g3 25 #[.bool (ng (m + n)), .slice A5 (ln (m + n)) c5] (0, 0) _ rfl (((H.setn [] 0 (.bool (ng (m + n))) rfl).setn [] 1 (.slice A5 (ln (m + n)) c5) rfl).blk (.head _)) Try.underlying25 rfl (by kernel_rfl)) rfl ?_
  replace H := (H.setn [] 0 (.bool (ng (m + n))) rfl).setn [] 1 (.slice A5 (ln (m + n)) c5) rfl
  exact ⟨A5, c5, rfl, H.ret (.head _), H.below⟩

set_option maxHeartbeats 2000000 in
set_option maxRecDepth 100000 in
theorem Add_ge (A A' : Option Addr) (c c' : Nat) (m n : Int) (w : World) (ok : Nat → Prop) (hf : (bw A c m).at w ok) (hf' : (bw A' c' n).at w ok) (hm : ln m ≤ 10000000) (hn : ln n ≤ 10000000) (hs : ng m ≠ ng n) (hle : n.natAbs ≤ m.natAbs) : Calls Try.prog 28 #[.agg #[.bool (ng m), .slice A (ln m) c], .agg #[.bool (ng n), .slice A' (ln n) c']] w (RetI w ok (m + n)) := by
  have LE := Aside0.mk (show (dg 4294967296 (m.natAbs - n.natAbs)).length ≤ 10000001 from Nat.le_trans (ln_add_le 10000000 10000000 m n hm hn _ (by omega)) (by omega))
  have VE := Aside0.mk (show m + n = if (ng m) = true then -(vl 4294967296 (dg 4294967296 (m.natAbs - n.natAbs))) else vl 4294967296 (dg 4294967296 (m.natAbs - n.natAbs)) by
    rw [vl_dgn]
    unfold ng at hs ⊢
    by_cases a : m < 0 <;> by_cases b : n < 0 <;> simp [a, b] at hs ⊢ <;> omega)
  have hd : (ng m == ng n) = false := by simpa using hs
  obtain ⟨q, CE, hq⟩ : ∃ q, Aside0 (cmp3 m.natAbs n.natAbs = q) ∧ 0 ≤ q := by
    refine ⟨_, ⟨rfl⟩, ?_⟩
    unfold cmp3; split
    · omega
    · split <;> omega
  have hq2 : decide (0 ≤ q) = true := by simpa using hq
  have SL := Aside0.mk hle
  clear hs hle hq
  have hu25 := Try.underlying25
  have H := ((Sit.start w ok).arg hf).arg hf'
  clear hf hf'
  go_enter Try.func28, Try.ntmps28
  go_wp2_with (first
    | ((with_reducible refine gate_dst (N := 2) rfl ?_); refine bE #[.bool (ng m), .slice A (ln m) c] 25 H ?_; clear H; intro g1 w1 H)
    | ((with_reducible refine gate_dst (N := 3) rfl ?_); refine bE #[.bool (ng n), .slice A' (ln n) c'] 25 H ?_; clear H; intro g2 w2 H)
    | ((with_reducible refine gate_dst (N := 4) rfl ?_); refine bE #[.bool false, .slice none 0 0] 25 H ?_; clear H; intro g3 w3 H; have kx_0 : w3.cell? ⟨g1, 0, none⟩ = some (.bool (ng m)) := H.cell m2 0; have kx_1 : w3.cell? ⟨g1, 1, none⟩ = some (.slice A (ln m) c) := H.cell m2 1; have ky_0 : w3.cell? ⟨g2, 0, none⟩ = some (.bool (ng n)) := H.cell m1 0; have ky_1 : w3.cell? ⟨g2, 1, none⟩ = some (.slice A' (ln n) c') := H.cell m1 1)
    | (go_at_call 81; refine (compareI (H.row _ m1) (H.row _ m0) hm (q) CE.out).mono ?_; rintro e w3b ⟨rfl, hb⟩; replace H := H.call hb; clear hb kx_0 kx_1 ky_0 ky_1; have kx_0 : w3b.cell? ⟨g1, 0, none⟩ = some (.bool (ng m)) := H.cell m2 0; have kx_1 : w3b.cell? ⟨g1, 1, none⟩ = some (.slice A (ln m) c) := H.cell m2 1; have ky_0 : w3b.cell? ⟨g2, 0, none⟩ = some (.bool (ng n)) := H.cell m1 0; have ky_1 : w3b.cell? ⟨g2, 1, none⟩ = some (.slice A' (ln n) c') := H.cell m1 1))
  go_region_held3 (fun w' => w'.cell? ⟨g1, 0, none⟩ = some (.bool (ng m)) ∧ w'.cell? ⟨g1, 1, none⟩ = some (.slice A (ln m) c) ∧ w'.cell? ⟨g2, 0, none⟩ = some (.bool (ng n)) ∧ w'.cell? ⟨g2, 1, none⟩ = some (.slice A' (ln n) c')) (first
      | exact (H.c2 m2 (H.d2 m1))
      | (have H' := (H.setn [] 0 (.bool (ng (m + n))) rfl).setn [] 1 (.slice A5 (ln (m + n)) c5) rfl; exact ⟨H'.cell m2 0, H'.cell m2 1, H'.cell m1 0, H'.cell m1 1⟩))
    (first
     | (go_at_call 82; refine (subI (H.drew.row _ m1) (H.drew.row _ m0) hm SL.out (dg 4294967296 (m.natAbs - n.natAbs)) rfl).mono ?_; rintro e w4 ⟨A4, c4, rfl, hr, hb⟩; replace H := H.drew.got hr hb; clear hr hb)
     | (go_at_call 78; refine (signed_ok (ng m) A4 c4 (dg 4294967296 (m.natAbs - n.natAbs)) (m + n) _ _ (dg_okd _) (by have := LE.out; omega) (H.row _ (.head _)) (VE.out)).mono ?_; rintro e w5 ⟨A5, c5, rfl, hr, hb⟩; replace H := H.got hr hb; clear hr hb; have z_0 : w5.cell? ⟨g3, 0, none⟩ = some (.bool false) := H.cell m0 0; have z_1 : w5.cell? ⟨g3, 1, none⟩ = some (.slice none 0 0) := H.cell m0 1; have zz_0 := H.frozen (g := g3) m0 0; have zz_1 := H.frozen (g := g3) m0 1))
  go_wp2
  refine bodyPost_ret (results_cell_row rfl _ _ g3 25 #[.bool (ng (m + n)), .slice A5 (ln (m + n)) c5] (0, 0) _ rfl (((H.setn [] 0 (.bool (ng (m + n))) rfl).setn [] 1 (.slice A5 (ln (m + n)) c5) rfl).blk (.head _)) Try.underlying25 rfl (by kernel_rfl)) rfl ?_
  replace H := (H.setn [] 0 (.bool (ng (m + n))) rfl).setn [] 1 (.slice A5 (ln (m + n)) c5) rfl
  exact ⟨A5, c5, rfl, H.ret (.head _), H.below⟩

set_option maxHeartbeats 2000000 in
set_option maxRecDepth 100000 in
theorem Add_lt (A A' : Option Addr) (c c' : Nat) (m n : Int) (w : World) (ok : Nat → Prop) (hf : (bw A c m).at w ok) (hf' : (bw A' c' n).at w ok) (hm : ln m ≤ 10000000) (hn : ln n ≤ 10000000) (hs : ng m ≠ ng n) (hle : m.natAbs < n.natAbs) : Calls Try.prog 28 #[.agg #[.bool (ng m), .slice A (ln m) c], .agg #[.bool (ng n), .slice A' (ln n) c']] w (RetI w ok (m + n)) := by
  have LE := Aside0.mk (show (dg 4294967296 (n.natAbs - m.natAbs)).length ≤ 10000001 from Nat.le_trans (ln_add_le 10000000 10000000 m n hm hn _ (by omega)) (by omega))
  have VE := Aside0.mk (show m + n = if (ng n) = true then -(vl 4294967296 (dg 4294967296 (n.natAbs - m.natAbs))) else vl 4294967296 (dg 4294967296 (n.natAbs - m.natAbs)) by
    rw [vl_dgn]
    unfold ng at hs ⊢
    by_cases a : m < 0 <;> by_cases b : n < 0 <;> simp [a, b] at hs ⊢ <;> omega)
  have hd : (ng m == ng n) = false := by simpa using hs
  have CE := Aside0.mk (show cmp3 m.natAbs n.natAbs = -1 from cmp3_lt (by omega))
  have SL := Aside0.mk (Nat.le_of_lt hle)
  clear hs hle
  have hu25 := Try.underlying25
  have H := ((Sit.start w ok).arg hf).arg hf'
  clear hf hf'
  go_enter Try.func28, Try.ntmps28
  go_wp2_with (first
    | ((with_reducible refine gate_dst (N := 2) rfl ?_); refine bE #[.bool (ng m), .slice A (ln m) c] 25 H ?_; clear H; intro g1 w1 H)
    | ((with_reducible refine gate_dst (N := 3) rfl ?_); refine bE #[.bool (ng n), .slice A' (ln n) c'] 25 H ?_; clear H; intro g2 w2 H)
    | ((with_reducible refine gate_dst (N := 4) rfl ?_); refine bE #[.bool false, .slice none 0 0] 25 H ?_; clear H; intro g3 w3 H; have kx_0 : w3.cell? ⟨g1, 0, none⟩ = some (.bool (ng m)) := H.cell m2 0; have kx_1 : w3.cell? ⟨g1, 1, none⟩ = some (.slice A (ln m) c) := H.cell m2 1; have ky_0 : w3.cell? ⟨g2, 0, none⟩ = some (.bool (ng n)) := H.cell m1 0; have ky_1 : w3.cell? ⟨g2, 1, none⟩ = some (.slice A' (ln n) c') := H.cell m1 1)
    | (go_at_call 81; refine (compareI (H.row _ m1) (H.row _ m0) hm (-1) CE.out).mono ?_; rintro e w3b ⟨rfl, hb⟩; replace H := H.call hb; clear hb kx_0 kx_1 ky_0 ky_1; have kx_0 : w3b.cell? ⟨g1, 0, none⟩ = some (.bool (ng m)) := H.cell m2 0; have kx_1 : w3b.cell? ⟨g1, 1, none⟩ = some (.slice A (ln m) c) := H.cell m2 1; have ky_0 : w3b.cell? ⟨g2, 0, none⟩ = some (.bool (ng n)) := H.cell m1 0; have ky_1 : w3b.cell? ⟨g2, 1, none⟩ = some (.slice A' (ln n) c') := H.cell m1 1))
  go_region_held3 (fun w' => w'.cell? ⟨g1, 0, none⟩ = some (.bool (ng m)) ∧ w'.cell? ⟨g1, 1, none⟩ = some (.slice A (ln m) c) ∧ w'.cell? ⟨g2, 0, none⟩ = some (.bool (ng n)) ∧ w'.cell? ⟨g2, 1, none⟩ = some (.slice A' (ln n) c')) (first
      | exact (H.c2 m2 (H.d2 m1))
      | (have H' := (H.setn [] 0 (.bool (ng (m + n))) rfl).setn [] 1 (.slice A5 (ln (m + n)) c5) rfl; exact ⟨H'.cell m2 0, H'.cell m2 1, H'.cell m1 0, H'.cell m1 1⟩))
    (first
     | (go_at_call 82; refine (subI (H.drew.row _ m0) (H.drew.row _ m1) hn SL.out (dg 4294967296 (n.natAbs - m.natAbs)) rfl).mono ?_; rintro e w4 ⟨A4, c4, rfl, hr, hb⟩; replace H := H.drew.got hr hb; clear hr hb)
     | (go_at_call 78; refine (signed_ok (ng n) A4 c4 (dg 4294967296 (n.natAbs - m.natAbs)) (m + n) _ _ (dg_okd _) (by have := LE.out; omega) (H.row _ (.head _)) (VE.out)).mono ?_; rintro e w5 ⟨A5, c5, rfl, hr, hb⟩; replace H := H.got hr hb; clear hr hb; have z_0 : w5.cell? ⟨g3, 0, none⟩ = some (.bool false) := H.cell m0 0; have z_1 : w5.cell? ⟨g3, 1, none⟩ = some (.slice none 0 0) := H.cell m0 1; have zz_0 := H.frozen (g := g3) m0 0; have zz_1 := H.frozen (g := g3) m0 1))
  go_wp2
  refine bodyPost_ret (results_cell_row rfl _ _ g3 25 #[.bool (ng (m + n)), .slice A5 (ln (m + n)) c5] (0, 0) _ rfl (((H.setn [] 0 (.bool (ng (m + n))) rfl).setn [] 1 (.slice A5 (ln (m + n)) c5) rfl).blk (.head _)) Try.underlying25 rfl (by kernel_rfl)) rfl ?_
  replace H := (H.setn [] 0 (.bool (ng (m + n))) rfl).setn [] 1 (.slice A5 (ln (m + n)) c5) rfl
  exact ⟨A5, c5, rfl, H.ret (.head _), H.below⟩

theorem Add_ok (A A' : Option Addr) (c c' : Nat) (m n : Int) (w : World) (ok : Nat → Prop) (hf : (bw A c m).at w ok) (hf' : (bw A' c' n).at w ok) (hm : ln m ≤ 10000000) (hn : ln n ≤ 10000000) : Calls Try.prog 28 #[.agg #[.bool (ng m), .slice A (ln m) c], .agg #[.bool (ng n), .slice A' (ln n) c']] w (RetI w ok (m + n)) := by
  by_cases hs : ng m = ng n
  · exact Add_same A A' c c' m n w ok hf hf' hm hn hs
  · by_cases hle : n.natAbs ≤ m.natAbs
    · exact Add_ge A A' c c' m n w ok hf hf' hm hn hs hle
    · exact Add_lt A A' c c' m n w ok hf hf' hm hn hs (by omega)

end Go.Proofs.Ytdkapdgbfejgdaa

/- bigint.Int: Sub, Sign, Cmp. -/
set_option linter.unusedVariables false
set_option linter.unusedSimpArgs false
namespace Go.Proofs.Ytdkapdgbfejgdaa
open Go.RowKit Go.Proofs.YtdkapdgbfejgdaaW.PrintWords Go.Proofs.YtdkapdgbfejgdaaW.PrintLast Go.Proofs.YtdkapdgbfejgdaaW.PrintMore

/-- -1, 0 or 1. -/
def sg (m : Int) : Int := if m < 0 then -1 else if m = 0 then 0 else 1
theorem ln_zero : ln 0 = 0 := rfl
theorem ln_pos {m : Int} (h : m ≠ 0) : 0 < ln m := by
  have hne : digs m ≠ [] := fun e => by
    have := (dg_nil_iff 4294967296 (by omega) m.natAbs).mp e
    omega
  exact List.length_pos_iff.mpr hne
set_option maxHeartbeats 2000000 in
set_option maxRecDepth 100000 in
theorem Sub_ok (A A' : Option Addr) (c c' : Nat) (m n : Int) (w : World) (ok : Nat → Prop) (hf : (bw A c m).at w ok) (hf' : (bw A' c' n).at w ok) (hm : ln m ≤ 10000000) (hn : ln n ≤ 10000000) : Calls Try.prog 30 #[.agg #[.bool (ng m), .slice A (ln m) c], .agg #[.bool (ng n), .slice A' (ln n) c']] w (RetI w ok (m - n)) := by
  have hu25 := Try.underlying25
  have H := ((Sit.start w ok).arg hf).arg hf'
  clear hf hf'
  go_enter Try.func30, Try.ntmps30
  go_wp2_with (first
    | ((with_reducible refine gate_dst (N := 2) rfl ?_); refine bE #[.bool (ng m), .slice A (ln m) c] 25 H ?_; clear H; intro g1 w1 H)
    | ((with_reducible refine gate_dst (N := 3) rfl ?_); refine bE #[.bool (ng n), .slice A' (ln n) c'] 25 H ?_; clear H; intro g2 w2 H)
    | ((with_reducible refine gate_dst (N := 4) rfl ?_); refine bE #[.bool false, .slice none 0 0] 25 H ?_; clear H; intro g3 w3 H; have kx_0 : w3.cell? ⟨g1, 0, none⟩ = some (.bool (ng m)) := H.cell m2 0; have kx_1 : w3.cell? ⟨g1, 1, none⟩ = some (.slice A (ln m) c) := H.cell m2 1; have ky_0 : w3.cell? ⟨g2, 0, none⟩ = some (.bool (ng n)) := H.cell m1 0; have ky_1 : w3.cell? ⟨g2, 1, none⟩ = some (.slice A' (ln n) c') := H.cell m1 1))
  go_region_held3 (fun w' => w'.cell? ⟨g1, 0, none⟩ = some (.bool (ng m)) ∧ w'.cell? ⟨g1, 1, none⟩ = some (.slice A (ln m) c) ∧ w'.cell? ⟨g2, 0, none⟩ = some (.bool (ng n)) ∧ w'.cell? ⟨g2, 1, none⟩ = some (.slice A' (ln n) c')) (first
      | exact (H.c2 m2 (H.d2 m1))
      | (have H' := (H.setn [] 0 (.bool (ng (m + -n))) rfl).setn [] 1 (.slice A5 (ln (m + -n)) c5) rfl; exact ⟨H'.cell m2 0, H'.cell m2 1, H'.cell m1 0, H'.cell m1 1⟩))
    (first
     | (go_at_call 37; refine (Neg_ok A' c' n _ _ (H.drew.row _ (.head _)) (by omega)).mono ?_; rintro e w4 ⟨A4, c4, rfl, hr, hb⟩; replace H := H.drew.got hr hb; clear hr hb)
     | (go_at_call 28; refine (Add_ok A A4 c c4 m (-n) _ _ (H.row _ m2) (H.row _ (.head _)) hm (by rw [ln_neg]; exact hn)).mono ?_; rintro e w5 ⟨A5, c5, rfl, hr, hb⟩; replace H := H.got hr hb; clear hr hb; have z_0 : w5.cell? ⟨g3, 0, none⟩ = some (.bool false) := H.cell m0 0; have z_1 : w5.cell? ⟨g3, 1, none⟩ = some (.slice none 0 0) := H.cell m0 1; have zz_0 := H.frozen (g := g3) m0 0; have zz_1 := H.frozen (g := g3) m0 1))
  go_wp2
  have e : m + -n = m - n := by omega
  rw [e] at H ⊢
  refine bodyPost_ret (results_cell_row rfl _ _ g3 25 #[.bool (ng (m - n)), .slice A5 (ln (m - n)) c5] (0, 0) _ rfl (((H.setn [] 0 (.bool (ng (m - n))) rfl).setn [] 1 (.slice A5 (ln (m - n)) c5) rfl).blk (.head _)) Try.underlying25 rfl (by kernel_rfl)) rfl ?_
  replace H := (H.setn [] 0 (.bool (ng (m - n))) rfl).setn [] 1 (.slice A5 (ln (m - n)) c5) rfl
  exact ⟨A5, c5, rfl, H.ret (.head _), H.below⟩

set_option maxHeartbeats 2000000 in
set_option maxRecDepth 100000 in
theorem Sign_ok (A : Option Addr) (c : Nat) (m : Int) (w : World) (hn : ln m ≤ 1000000000) :
    Calls Try.prog 25 #[.agg #[.bool (ng m), .slice A (ln m) c]] w (RetI64 (sg m) w) := by
  have hu25 := Try.underlying25
  have H := Sit.start w (fun _ => True)
  by_cases h0 : m = 0
  · have E := Aside0.mk (show sg m = 0 by unfold sg; rw [if_neg (by omega), if_pos h0])
    have p1 : ((ln m : Int) == 0) = true := by rw [h0]; rfl
    have p2 : (ln m == 0) = true := by rw [h0]; rfl
    clear h0
    go_enter Try.func25, Try.ntmps25
    go_wp2_with (((with_reducible refine gate_dst (N := 1) rfl ?_); refine bE #[.bool (ng m), .slice A (ln m) c] 25 H ?_; clear H; intro g1 w1 H; have kx_0 : w1.cell? ⟨g1, 0, none⟩ = some (.bool (ng m)) := H.cell m0 0; have kx_1 : w1.cell? ⟨g1, 1, none⟩ = some (.slice A (ln m) c) := H.cell m0 1))
    go_ret
    exact ⟨by rw [E.out]; rfl, H.below⟩
  · have l0 := ln_pos h0
    have p1 : ((ln m : Int) == 0) = false := by simp; omega
    have p2 : (ln m == 0) = false := by simp; omega
    by_cases h1 : m < 0
    · have E := Aside0.mk (show sg m = -1 by unfold sg; rw [if_pos h1])
      have p3 : ng m = true := by unfold ng; simpa using h1
      clear h0 h1
      go_enter Try.func25, Try.ntmps25
      go_wp2_with (((with_reducible refine gate_dst (N := 1) rfl ?_); refine bE #[.bool (ng m), .slice A (ln m) c] 25 H ?_; clear H; intro g1 w1 H; have kx_0 : w1.cell? ⟨g1, 0, none⟩ = some (.bool (ng m)) := H.cell m0 0; have kx_1 : w1.cell? ⟨g1, 1, none⟩ = some (.slice A (ln m) c) := H.cell m0 1))
      go_ret
      exact ⟨by rw [E.out]; rfl, H.below⟩
    · have E := Aside0.mk (show sg m = 1 by unfold sg; rw [if_neg h1, if_neg h0])
      have p3 : ng m = false := by unfold ng; simpa using h1
      clear h0 h1
      go_enter Try.func25, Try.ntmps25
      go_wp2_with (((with_reducible refine gate_dst (N := 1) rfl ?_); refine bE #[.bool (ng m), .slice A (ln m) c] 25 H ?_; clear H; intro g1 w1 H; have kx_0 : w1.cell? ⟨g1, 0, none⟩ = some (.bool (ng m)) := H.cell m0 0; have kx_1 : w1.cell? ⟨g1, 1, none⟩ = some (.slice A (ln m) c) := H.cell m0 1))
      go_ret
      exact ⟨by rw [E.out]; rfl, H.below⟩

set_option maxHeartbeats 2000000 in
set_option maxRecDepth 100000 in
theorem Cmp_ok (A A' : Option Addr) (c c' : Nat) (m n : Int) (w : World) (ok : Nat → Prop) (hf : (bw A c m).at w ok) (hf' : (bw A' c' n).at w ok) (hm : ln m ≤ 10000000) (hn : ln n ≤ 10000000) : Calls Try.prog 34 #[.agg #[.bool (ng m), .slice A (ln m) c], .agg #[.bool (ng n), .slice A' (ln n) c']] w (RetI64 (cmp3 m n) w) := by
  have hu25 := Try.underlying25
  have H := ((Sit.start w ok).arg hf).arg hf'
  clear hf hf'
  by_cases hs : sg m = sg n
  · have d1 : (sg m == sg n) = true := by simpa using hs
    have d2 : (sg m != sg n) = false := by simpa using hs
    by_cases hneg : m < 0
    · have P3 := Aside0.mk (show ng m = true by unfold ng; simpa using hneg)
      have E := Aside0.mk (show cmp3 n.natAbs m.natAbs = cmp3 m n by
        have hn : n < 0 := by
          unfold sg at hs; rw [if_pos hneg] at hs
          by_cases b : n < 0
          · exact b
          · rw [if_neg b] at hs; split at hs <;> omega
        unfold cmp3
        by_cases b : m < n
        · rw [if_pos b, if_pos (by omega)]
        · rw [if_neg b, if_neg (by omega)]
          by_cases d : n < m
          · rw [if_pos d, if_pos (by omega)]
          · rw [if_neg d, if_neg (by omega)])
      clear hs hneg
      skip
      go_enter Try.func34, Try.ntmps34
      go_wp2_with (first
        | ((with_reducible refine gate_dst (N := 2) rfl ?_); refine bE #[.bool (ng m), .slice A (ln m) c] 25 H ?_; clear H; intro g1 w1 H)
        | ((with_reducible refine gate_dst (N := 3) rfl ?_); refine bE #[.bool (ng n), .slice A' (ln n) c'] 25 H ?_; clear H; intro g2 w2 H; have kx_0 : w2.cell? ⟨g1, 0, none⟩ = some (.bool (ng m)) := H.cell m1 0; have kx_1 : w2.cell? ⟨g1, 1, none⟩ = some (.slice A (ln m) c) := H.cell m1 1; have ky_0 : w2.cell? ⟨g2, 0, none⟩ = some (.bool (ng n)) := H.cell m0 0; have ky_1 : w2.cell? ⟨g2, 1, none⟩ = some (.slice A' (ln n) c') := H.cell m0 1))
      go_region_held3 (fun w' => w'.cell? ⟨g1, 0, none⟩ = some (.bool (ng m)) ∧ w'.cell? ⟨g1, 1, none⟩ = some (.slice A (ln m) c) ∧ w'.cell? ⟨g2, 0, none⟩ = some (.bool (ng n)) ∧ w'.cell? ⟨g2, 1, none⟩ = some (.slice A' (ln n) c')) (first
          | exact (H.c2 m1 (H.d2 m0))
          | exact ⟨H.drew.cell m1 0, H.drew.cell m1 1, H.drew.cell m0 0, H.drew.cell m0 1⟩)
        (first
         | (go_at_call 25; (with_reducible refine (Sign_ok A c m _ (by omega)).mono ?_); rintro e w3 ⟨rfl, hb⟩; replace H := H.drew.call hb; clear hb)
         | (go_at_call 25; (with_reducible refine (Sign_ok A' c' n _ (by omega)).mono ?_); rintro e w4 ⟨rfl, hb⟩; replace H := H.call hb; clear hb))
      have kx_0 : w4.cell? ⟨g1, 0, none⟩ = some (.bool (ng m)) := H.cell m1 0; have kx_1 : w4.cell? ⟨g1, 1, none⟩ = some (.slice A (ln m) c) := H.cell m1 1; have ky_0 : w4.cell? ⟨g2, 0, none⟩ = some (.bool (ng n)) := H.cell m0 0; have ky_1 : w4.cell? ⟨g2, 1, none⟩ = some (.slice A' (ln n) c') := H.cell m0 1
      have p3 := P3.out
      go_wp2_with (go_at_call 81; refine (compareI (H.row _ m0) (H.row _ m1) hn _ rfl).mono ?_; rintro e w5 ⟨rfl, hb⟩; replace H := H.call hb; clear hb)
      go_ret
      exact ⟨by rw [← E.out]; rfl, H.below⟩
    · have P3 := Aside0.mk (show ng m = false by unfold ng; simpa using hneg)
      have E := Aside0.mk (show cmp3 m.natAbs n.natAbs = cmp3 m n by
        have hn : ¬ n < 0 := by
          intro b
          unfold sg at hs; rw [if_neg hneg, if_pos b] at hs
          split at hs <;> omega
        unfold cmp3
        by_cases b : m < n
        · rw [if_pos b, if_pos (by omega)]
        · rw [if_neg b, if_neg (by omega)]
          by_cases d : n < m
          · rw [if_pos d, if_pos (by omega)]
          · rw [if_neg d, if_neg (by omega)])
      clear hs hneg
      skip
      go_enter Try.func34, Try.ntmps34
      go_wp2_with (first
        | ((with_reducible refine gate_dst (N := 2) rfl ?_); refine bE #[.bool (ng m), .slice A (ln m) c] 25 H ?_; clear H; intro g1 w1 H)
        | ((with_reducible refine gate_dst (N := 3) rfl ?_); refine bE #[.bool (ng n), .slice A' (ln n) c'] 25 H ?_; clear H; intro g2 w2 H; have kx_0 : w2.cell? ⟨g1, 0, none⟩ = some (.bool (ng m)) := H.cell m1 0; have kx_1 : w2.cell? ⟨g1, 1, none⟩ = some (.slice A (ln m) c) := H.cell m1 1; have ky_0 : w2.cell? ⟨g2, 0, none⟩ = some (.bool (ng n)) := H.cell m0 0; have ky_1 : w2.cell? ⟨g2, 1, none⟩ = some (.slice A' (ln n) c') := H.cell m0 1))
      go_region_held3 (fun w' => w'.cell? ⟨g1, 0, none⟩ = some (.bool (ng m)) ∧ w'.cell? ⟨g1, 1, none⟩ = some (.slice A (ln m) c) ∧ w'.cell? ⟨g2, 0, none⟩ = some (.bool (ng n)) ∧ w'.cell? ⟨g2, 1, none⟩ = some (.slice A' (ln n) c')) (first
          | exact (H.c2 m1 (H.d2 m0))
          | exact ⟨H.drew.cell m1 0, H.drew.cell m1 1, H.drew.cell m0 0, H.drew.cell m0 1⟩)
        (first
         | (go_at_call 25; (with_reducible refine (Sign_ok A c m _ (by omega)).mono ?_); rintro e w3 ⟨rfl, hb⟩; replace H := H.drew.call hb; clear hb)
         | (go_at_call 25; (with_reducible refine (Sign_ok A' c' n _ (by omega)).mono ?_); rintro e w4 ⟨rfl, hb⟩; replace H := H.call hb; clear hb))
      have kx_0 : w4.cell? ⟨g1, 0, none⟩ = some (.bool (ng m)) := H.cell m1 0; have kx_1 : w4.cell? ⟨g1, 1, none⟩ = some (.slice A (ln m) c) := H.cell m1 1; have ky_0 : w4.cell? ⟨g2, 0, none⟩ = some (.bool (ng n)) := H.cell m0 0; have ky_1 : w4.cell? ⟨g2, 1, none⟩ = some (.slice A' (ln n) c') := H.cell m0 1
      have p3 := P3.out
      go_wp2_with (go_at_call 81; refine (compareI (H.row _ m1) (H.row _ m0) hm _ rfl).mono ?_; rintro e w5 ⟨rfl, hb⟩; replace H := H.call hb; clear hb)
      go_ret
      exact ⟨by rw [← E.out]; rfl, H.below⟩
  · have d1 : (sg m == sg n) = false := by simpa using hs
    have d2 : (sg m != sg n) = true := by simpa using hs
    have E := Aside0.mk (show cmp3 (sg m) (sg n) = cmp3 m n by
      unfold cmp3 sg at *
      by_cases a : m < 0 <;> by_cases b : n < 0 <;> by_cases d : m = 0 <;> by_cases e : n = 0 <;> simp [a, b, d, e] at hs ⊢ <;> (first | omega | (rw [if_pos (by omega)]) | (rw [if_neg (by omega), if_pos (by omega)])))
    clear hs
    skip
    go_enter Try.func34, Try.ntmps34
    go_wp2_with (first
      | ((with_reducible refine gate_dst (N := 2) rfl ?_); refine bE #[.bool (ng m), .slice A (ln m) c] 25 H ?_; clear H; intro g1 w1 H)
      | ((with_reducible refine gate_dst (N := 3) rfl ?_); refine bE #[.bool (ng n), .slice A' (ln n) c'] 25 H ?_; clear H; intro g2 w2 H; have kx_0 : w2.cell? ⟨g1, 0, none⟩ = some (.bool (ng m)) := H.cell m1 0; have kx_1 : w2.cell? ⟨g1, 1, none⟩ = some (.slice A (ln m) c) := H.cell m1 1; have ky_0 : w2.cell? ⟨g2, 0, none⟩ = some (.bool (ng n)) := H.cell m0 0; have ky_1 : w2.cell? ⟨g2, 1, none⟩ = some (.slice A' (ln n) c') := H.cell m0 1))
    go_region_held3 (fun w' => w'.cell? ⟨g1, 0, none⟩ = some (.bool (ng m)) ∧ w'.cell? ⟨g1, 1, none⟩ = some (.slice A (ln m) c) ∧ w'.cell? ⟨g2, 0, none⟩ = some (.bool (ng n)) ∧ w'.cell? ⟨g2, 1, none⟩ = some (.slice A' (ln n) c')) (first
        | exact (H.c2 m1 (H.d2 m0))
        | exact ⟨H.drew.cell m1 0, H.drew.cell m1 1, H.drew.cell m0 0, H.drew.cell m0 1⟩)
      (first
       | (go_at_call 25; (with_reducible refine (Sign_ok A c m _ (by omega)).mono ?_); rintro e w3 ⟨rfl, hb⟩; replace H := H.drew.call hb; clear hb)
       | (go_at_call 25; (with_reducible refine (Sign_ok A' c' n _ (by omega)).mono ?_); rintro e w4 ⟨rfl, hb⟩; replace H := H.call hb; clear hb))
    have kx_0 : w4.cell? ⟨g1, 0, none⟩ = some (.bool (ng m)) := H.cell m1 0; have kx_1 : w4.cell? ⟨g1, 1, none⟩ = some (.slice A (ln m) c) := H.cell m1 1; have ky_0 : w4.cell? ⟨g2, 0, none⟩ = some (.bool (ng n)) := H.cell m0 0; have ky_1 : w4.cell? ⟨g2, 1, none⟩ = some (.slice A' (ln n) c') := H.cell m0 1
    skip
    go_wp2_with (go_at_call 84; refine (CmpInt_ok _ _ _).mono ?_; rintro e w5 ⟨rfl, rfl⟩)
    go_ret
    exact ⟨by rw [← E.out]; rfl, H.below⟩

end Go.Proofs.Ytdkapdgbfejgdaa

/- bigint.Int.Mul: the product. -/
set_option linter.unusedVariables false
set_option linter.unusedSimpArgs false
namespace Go.Proofs.Ytdkapdgbfejgdaa
open Go.RowKit Go.Proofs.YtdkapdgbfejgdaaW.PrintWords Go.Proofs.YtdkapdgbfejgdaaW.PrintLast Go.Proofs.YtdkapdgbfejgdaaW.PrintMore

theorem vl_set (b : Int) : ∀ (l : List Int) (k : Nat) (v : Int), k < l.length → vl b (l.set k v) = vl b l + b ^ k * (v - l.getD k 0)
  | [], k, v, h => by simp at h
  | x :: xs, 0, v, _ => by simp [vl]; omega
  | x :: xs, k + 1, v, h => by
    rw [List.set_cons_succ, vl_cons, vl_cons, vl_set b xs k v (by simpa using h), List.getD_cons_succ, Int.pow_succ, Int.mul_add]
    have : b * (b ^ k * (v - xs.getD k 0)) = b ^ k * b * (v - xs.getD k 0) := by rw [← Int.mul_assoc, Int.mul_comm b]
    omega
theorem getD_set_ne (l : List Int) (i j : Nat) (v : Int) (h : i ≠ j) : (l.set i v).getD j 0 = l.getD j 0 := by
  simp [List.getD, h]

theorem signedN {neg : Bool} {A : Option Addr} {c k : Nat} {l : List Int} {m : Int} {w : World} {ok : Nat → Prop} (hk : l.length = k) (hl : Okd 4294967296 l) (hn : k ≤ 1000000000)
    (hf : (⟨.u32, A, c, l⟩ : Rw).at w ok) (hm : m = if neg = true then -(vl 4294967296 l) else vl 4294967296 l) :
    Calls Try.prog 78 #[.bool neg, .slice A k c] w (RetI w ok m) := by
  subst hk
  exact signed_ok neg A c l m w ok hl hn hf hm

/-- Inside the row of one digit d: k digits of Y are done. -/
def MulIn (Y o0 o : List Int) (i : Nat) (d : Int) (k : Nat) (cv : Int) : Prop :=
  o.length = o0.length ∧ Okd 4294967296 o ∧ k ≤ Y.length ∧ 0 ≤ cv ∧ cv < 4294967296 ∧
    vl 4294967296 o + 4294967296 ^ (i + k) * cv = vl 4294967296 o0 + 4294967296 ^ i * (d * vl 4294967296 (Y.take k)) ∧ ∀ j, i + k ≤ j → o.getD j 0 = o0.getD j 0
/-- i digits of X are done. -/
def MulOut (X Y o : List Int) (i : Nat) : Prop :=
  o.length = X.length + Y.length ∧ Okd 4294967296 o ∧ i ≤ X.length ∧ vl 4294967296 o = vl 4294967296 (X.take i) * vl 4294967296 Y ∧ ∀ j, i + Y.length ≤ j → o.getD j 0 = 0

theorem mul_fits {d e p q : Int} (d0 : 0 ≤ d) (d1 : d < 4294967296) (e0 : 0 ≤ e) (e1 : e < 4294967296) (p0 : 0 ≤ p) (p1 : p < 4294967296) (q0 : 0 ≤ q) (q1 : q < 4294967296) :
    0 ≤ d * e ∧ d * e ≤ 18446744065119617025 ∧ 0 ≤ d * e + p + q ∧ d * e + p + q ≤ 18446744073709551615 := by
  have h1 : d * e ≤ 4294967295 * e := Int.mul_le_mul_of_nonneg_right (by omega) e0
  have h2 : 0 ≤ d * e := Int.mul_nonneg d0 e0
  omega

theorem MulIn.step {Y o0 o : List Int} {i k : Nat} {d cv e p : Int} (h : MulIn Y o0 o i d k cv) (hk : k < Y.length) (hik : i + k < o.length) (he : Y.getD k 0 = e) (hp : o.getD (i + k) 0 = p) (d0 : 0 ≤ d) (d1 : d < 4294967296) (e0 : 0 ≤ e) (e1 : e < 4294967296) :
    MulIn Y o0 (o.set (i + k) ((d * e + p + cv) % 4294967296)) i d (k + 1) ((d * e + p + cv) / 4294967296) := by
  obtain ⟨h1, h2, h3, h4, h5, h6, h7⟩ := h
  have hpp := h2.getD (by omega) (i + k)
  rw [hp] at hpp
  obtain ⟨f1, f2, f3, f4⟩ := mul_fits d0 d1 e0 e1 hpp.1 hpp.2 h4 h5
  refine ⟨by simp [h1], h2.set _ (by omega) (by omega), by omega, by omega, by omega, ?_, ?_⟩
  · rw [vl_set _ _ _ _ hik, hp, vl_take_succ, he, show i + (k + 1) = (i + k) + 1 by omega, Int.pow_succ]
    generalize hs : d * e + p + cv = s at *
    have e1 : (4294967296 : Int) ^ (i + k) * (s % 4294967296 - p) + 4294967296 ^ (i + k) * 4294967296 * (s / 4294967296) = 4294967296 ^ (i + k) * (s - p) := by
      rw [Int.mul_assoc, ← Int.mul_add]; congr 1; omega
    have e2 : (4294967296 : Int) ^ i * (d * (vl 4294967296 (List.take k Y) + 4294967296 ^ k * e)) = 4294967296 ^ i * (d * vl 4294967296 (List.take k Y)) + 4294967296 ^ (i + k) * (d * e) := by
      rw [Int.mul_add, Int.mul_add, Int.pow_add]
      congr 1
      rw [Int.mul_assoc, Int.mul_left_comm d]
    have e3 : (4294967296 : Int) ^ (i + k) * (s - p) = 4294967296 ^ (i + k) * (d * e) + 4294967296 ^ (i + k) * cv := by
      rw [← Int.mul_add]; congr 1; omega
    omega
  · intro j hj
    rw [getD_set_ne _ _ _ _ (by omega)]
    exact h7 j (by omega)

theorem MulOut.next {X Y o0 o : List Int} {i : Nat} {d cv : Int} (h0 : MulOut X Y o0 i) (hi : i < X.length) (hd : X.getD i 0 = d) (h : MulIn Y o0 o i d Y.length cv) : MulOut X Y (o.set (i + Y.length) cv) (i + 1) := by
  obtain ⟨a1, a2, a3, a4, a5⟩ := h0
  obtain ⟨h1, h2, h3, h4, h5, h6, h7⟩ := h
  refine ⟨by simp [h1, a1], h2.set _ h4 h5, by omega, ?_, ?_⟩
  · rw [vl_set _ _ _ _ (by omega), h7 _ (Nat.le_refl _), a5 _ (Nat.le_refl _), vl_take_succ, hd]
    rw [List.take_of_length_le (Nat.le_refl _), a4] at h6
    rw [Int.add_mul, Int.sub_zero, Int.mul_assoc]
    omega
  · intro j hj
    rw [getD_set_ne _ _ _ _ (by omega), h7 j (by omega), a5 j (by omega)]

theorem MulIn.start {X Y o : List Int} {i : Nat} {d : Int} (h0 : MulOut X Y o i) : MulIn Y o o i d 0 0 := by
  obtain ⟨a1, a2, a3, a4, a5⟩ := h0
  exact ⟨rfl, a2, by omega, by omega, by omega, by simp [vl], fun _ _ => rfl⟩

set_option maxHeartbeats 4000000 in
set_option maxRecDepth 100000 in
theorem Mul_ok (A A' : Option Addr) (c c' : Nat) (m n : Int) (w : World) (ok : Nat → Prop) (hf : (bw A c m).at w ok) (hf' : (bw A' c' n).at w ok) (hm : ln m ≤ 10000000) (hn : ln n ≤ 10000000) : Calls Try.prog 31 #[.agg #[.bool (ng m), .slice A (ln m) c], .agg #[.bool (ng n), .slice A' (ln n) c']] w (RetI w ok (m * n)) := by
  have hu25 := Try.underlying25
  have H := ((Sit.start w ok).arg hf).arg hf'
  clear hf hf'
  go_enter Try.func31, Try.ntmps31
  go_wp2_with (first
    | ((with_reducible refine gate_dst (N := 2) rfl ?_); refine bE #[.bool (ng m), .slice A (ln m) c] 25 H ?_; clear H; intro g1 w1 H)
    | ((with_reducible refine gate_dst (N := 3) rfl ?_); refine bE #[.bool (ng n), .slice A' (ln n) c'] 25 H ?_; clear H; intro g2 w2 H)
    | ((with_reducible refine gate_dst (N := 4) rfl ?_); refine bE #[.bool false, .slice none 0 0] 25 H ?_; clear H; intro g3 w3 H; have kx_0 : w3.cell? ⟨g1, 0, none⟩ = some (.bool (ng m)) := H.cell m2 0; have kx_1 : w3.cell? ⟨g1, 1, none⟩ = some (.slice A (ln m) c) := H.cell m2 1; have ky_0 : w3.cell? ⟨g2, 0, none⟩ = some (.bool (ng n)) := H.cell m1 0; have ky_1 : w3.cell? ⟨g2, 1, none⟩ = some (.slice A' (ln n) c') := H.cell m1 1)
    | ((with_reducible refine gate_dst (N := 19) rfl ?_); refine make_event rfl (N := 19) rfl 23 (.tmp 18) (.tmp 18) rfl .u32 93 4 (ln m + ln n) rfl rfl Try.underlying23 info93 (by omega) (by omega) ?_; intro g4 hg w4 hbox hb; replace H := H.newbox hg hbox hb; clear hg hbox hb kx_0 kx_1 ky_0 ky_1; have kx_0 : w4.cell? ⟨g1, 0, none⟩ = some (.bool (ng m)) := H.cell m3 0; have kx_1 : w4.cell? ⟨g1, 1, none⟩ = some (.slice A (ln m) c) := H.cell m3 1; have ky_0 : w4.cell? ⟨g2, 0, none⟩ = some (.bool (ng n)) := H.cell m2 0; have ky_1 : w4.cell? ⟨g2, 1, none⟩ = some (.slice A' (ln n) c') := H.cell m2 1))
  have hI : MulOut (digs m) (digs n) (List.replicate (ln m + ln n) 0) 0 := ⟨by simp [ln], Okd.replicate (by omega) _, by omega, by rw [vl_replicate]; simp [vl], fun j _ => by simp [List.getD, List.getElem?_replicate]; split <;> rfl⟩
  go_loopw [23] (fun i wr => ∃ (i' : Nat) (o : List Int), i = .int .i64 i' ∧ MulOut (digs m) (digs n) o i' ∧ Sit w wr ok [(g4, .cells (o.map (Value.int .u32)).toArray 93 (0, 0)), (g3, .cells #[.bool false, .slice none 0 0] 25 (0, 0)), (g2, .cells #[.bool (ng n), .slice A' (ln n) c'] 25 (0, 0)), (g1, .cells #[.bool (ng m), .slice A (ln m) c] 25 (0, 0))] [bw A' c' n, bw A c m]) (fun i _ => ln m - (intOf i).toNat)
  case atStart => exact ⟨0, _, rfl, hI, H⟩
  case round =>
    clear H hI kx_0 kx_1 ky_0 ky_1
    obtain ⟨i, o, rfl, hO, H⟩ := hrel
    obtain ⟨wo, rfl⟩ : ∃ wo : World, wo = wr := ⟨_, rfl⟩
    have kx_0 : wo.cell? ⟨g1, 0, none⟩ = some (.bool (ng m)) := H.cell m3 0; have kx_1 : wo.cell? ⟨g1, 1, none⟩ = some (.slice A (ln m) c) := H.cell m3 1; have ky_0 : wo.cell? ⟨g2, 0, none⟩ = some (.bool (ng n)) := H.cell m2 0; have ky_1 : wo.cell? ⟨g2, 1, none⟩ = some (.slice A' (ln n) c') := H.cell m2 1
    by_cases hi : i < ln m
    · obtain ⟨ax, ex, rx⟩ := H.read (f := bw A c m) (.tail _ (.head _)) i hi
      simp only [bw] at ex rx
      subst ex
      obtain ⟨d, hd⟩ : ∃ d, (digs m).getD i 0 = d := ⟨_, rfl⟩
      obtain ⟨d0, d1⟩ := (digs_okd m).getD (by omega) i
      rw [hd] at rx d0 d1
      have HD := Aside0.mk hd
      clear hd
      have hol := hO.1
      have HO := Aside0.mk hO
      clear hO
      go_wp2
      have hI2 := MulIn.start (d := d) HO.out
      go_loopw [8, 31] (fun cy kk wr => ∃ (k : Nat) (cv : Int) (p : List Int), kk = .int .i64 k ∧ cy = .int .u64 cv ∧ MulIn (digs n) o p i d k cv ∧ Sit w wr ok [(g4, .cells (p.map (Value.int .u32)).toArray 93 (0, 0)), (g3, .cells #[.bool false, .slice none 0 0] 25 (0, 0)), (g2, .cells #[.bool (ng n), .slice A' (ln n) c'] 25 (0, 0)), (g1, .cells #[.bool (ng m), .slice (some ax) (ln m) c] 25 (0, 0))] [bw A' c' n, bw (some ax) c m]) (fun _ kk _ => ln n - (intOf kk).toNat)
      case atStart => exact ⟨0, 0, o, rfl, rfl, hI2, H⟩
      case round =>
        clear H hI2 kx_0 kx_1 ky_0 ky_1 rx
        obtain ⟨k, cv, p, rfl, rfl, hI, H⟩ := hrel
        have kx_0 : wr.cell? ⟨g1, 0, none⟩ = some (.bool (ng m)) := H.cell m3 0; have kx_1 : wr.cell? ⟨g1, 1, none⟩ = some (.slice (some ax) (ln m) c) := H.cell m3 1; have ky_0 : wr.cell? ⟨g2, 0, none⟩ = some (.bool (ng n)) := H.cell m2 0; have ky_1 : wr.cell? ⟨g2, 1, none⟩ = some (.slice A' (ln n) c') := H.cell m2 1
        obtain ⟨q1, q2, q3, q4, q5, -, -⟩ := id hI
        by_cases hk : k < ln n
        · obtain ⟨ay, ey, ry⟩ := H.read (f := bw A' c' n) (.head _) k hk
          simp only [bw] at ey ry
          subst ey
          obtain ⟨y, hy⟩ : ∃ y, (digs n).getD k 0 = y := ⟨_, rfl⟩
          obtain ⟨y0, y1⟩ := (digs_okd n).getD (by omega) k
          rw [hy] at ry y0 y1
          obtain ⟨v, hv⟩ : ∃ v, p.getD (i + k) 0 = v := ⟨_, rfl⟩
          obtain ⟨v0, v1⟩ := q2.getD (by omega) (i + k)
          rw [hv] at v0 v1
          have hpl : i + k < p.length := by have : (digs m).length = ln m := rfl; have : (digs n).length = ln n := rfl; omega
          have z0 : wr.cell? ⟨g4, i + k, none⟩ = some (.int .u32 v) := (H.cell (.head _) (i + k)).trans (by rw [← hv]; simp [List.getD, hpl])
          have z1 := H.frozen (g := g4) (.head _) (i + k)
          have T := Aside0.mk (hI.step hk hpl hy hv d0 d1 y0 y1)
          obtain ⟨f1, f2, f3, f4⟩ := mul_fits d0 d1 y0 y1 v0 v1 q4 q5
          have hp2 : i + k < ln m + ln n := by omega
          clear hy hv hI
          go_wp2
          go_roundw
          case rel => exact ⟨k + 1, _, _, by go_num, rfl, T.out, H.setn [] (i + k) _ (by simp [List.map_set])⟩
          case measure => simp [intOf]; omega
        · have ek : k = ln n := by have : (digs n).length = ln n := rfl; omega
          subst ek
          have hpl : i + ln n < p.length := by have : (digs m).length = ln m := rfl; have : (digs n).length = ln n := rfl; omega
          have z0 : wr.cell? ⟨g4, i + ln n, none⟩ = some (.int .u32 (p.getD (i + ln n) 0)) := (H.cell (.head _) (i + ln n)).trans (by simp [List.getD, hpl])
          have z1 := H.frozen (g := g4) (.head _) (i + ln n)
          have T := Aside0.mk (HO.out.next (d := d) hi HD.out hI)
          have hp2 : i + ln n < ln m + ln n := by omega
          clear hI HO
          go_wp2
          go_roundw
          case rel => exact ⟨i + 1, _, by go_num, T.out, H.setn [] (i + ln n) _ (by simp [List.map_set, ln])⟩
          case measure => simp [intOf]; omega
    · have ei : i = ln m := by have := hO.2.2.1; have : (digs m).length = ln m := rfl; omega
      subst ei
      have hol : o.length = ln m + ln n := hO.1
      have hv : vl 4294967296 o = m.natAbs * n.natAbs := by
        have := hO.2.2.2.1
        rw [List.take_of_length_le (show (digs m).length ≤ ln m from Nat.le_refl _), digs_vl, digs_vl] at this
        exact this
      have VE := Aside0.mk (show m * n = if (!(ng m == ng n)) = true then -(vl 4294967296 o) else vl 4294967296 o by
        rw [hv, ← Int.natCast_mul, ← Int.natAbs_mul]
        unfold ng
        by_cases a : m < 0 <;> by_cases b : n < 0 <;> simp only [a, b, decide_true, decide_false, beq_self_eq_true, Bool.not_true, Bool.false_eq_true, if_false, show (!(true == false)) = true from rfl, show (!(false == true)) = true from rfl, if_true]
        · have := Int.mul_pos_of_neg_of_neg a b; omega
        · have := Int.mul_nonneg (show 0 ≤ -m by omega) (show 0 ≤ n by omega); rw [Int.neg_mul] at this; omega
        · have := Int.mul_nonneg (show 0 ≤ m by omega) (show 0 ≤ -n by omega); rw [Int.mul_neg] at this; omega
        · have := Int.mul_nonneg (show 0 ≤ m by omega) (show 0 ≤ n by omega); omega)
      have OO := Aside0.mk hO.2.1
      clear hO hv
      go_wp2_with (go_at_call 78; (with_reducible refine (signedN (l := o) (m := m * n) (ok := fun j => j = g4) hol OO.out (by omega) (box_row (e := 93) (H.blk (List.Mem.head _)) hol (Nat.le_refl _) (by omega)) VE.out).mono ?_); rintro e w5 ⟨A5, c5, rfl, hr, hb⟩; replace H := H.own hr hb; clear hr hb kx_0 kx_1 ky_0 ky_1; have z_0 : w5.cell? ⟨g3, 0, none⟩ = some (.bool false) := H.cell m0 0; have z_1 : w5.cell? ⟨g3, 1, none⟩ = some (.slice none 0 0) := H.cell m0 1; have zz_0 := H.frozen (g := g3) m0 0; have zz_1 := H.frozen (g := g3) m0 1)
      refine bodyPost_ret (results_cell_row rfl _ _ g3 25 #[.bool (ng (m * n)), .slice A5 (ln (m * n)) c5] (0, 0) _ rfl (((H.setn [] 0 (.bool (ng (m * n))) rfl).setn [] 1 (.slice A5 (ln (m * n)) c5) rfl).blk (.head _)) Try.underlying25 rfl (by kernel_rfl)) rfl ?_
      replace H := (H.setn [] 0 (.bool (ng (m * n))) rfl).setn [] 1 (.slice A5 (ln (m * n)) c5) rfl
      exact ⟨A5, c5, rfl, H.ret (.head _), H.below⟩

end Go.Proofs.Ytdkapdgbfejgdaa
