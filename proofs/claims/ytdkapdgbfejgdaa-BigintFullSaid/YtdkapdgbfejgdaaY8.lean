/- bigint.Int.Mul: the product. -/
import Derived.Test.YtdkapdgbfejgdaaY7
set_option linter.unusedVariables false
set_option linter.unusedSimpArgs false
namespace Go.Proofs.Ytdkapdgbfejgdaa
open Go.RowKit Go.Proofs.YtdkapdgbfejgdaaW.PrintWords Go.Proofs.YtdkapdgbfejgdaaW.PrintLast Go.Proofs.YtdkapdgbfejgdaaW.PrintMore

theorem vl_set (b : Int) : ∀ (l : List Int) (k : Nat) (v : Int), k < l.length → vl b (l.set k v) = vl b l + b ^ k * (v - l.getD k 0)
  | [], k, v, h => by simp at h
  | x :: xs, 0, v, _ => by simp [vl]; omega
  | x :: xs, k + 1, v, h => by
    rw [List.set_cons_succ, vl_cons, vl_cons, vl_set b xs k v (by simpa using h), List.getD_cons_succ, Int.pow_succ, Int.mul_add]
    have : b * (b ^ k * (v - xs.getD k 0)) = b ^ k * b * (v - xs.getD k 0) := by rw [← Int.mul_assoc, Int.mul_comm b]
    omega
theorem getD_set_ne (l : List Int) (i j : Nat) (v : Int) (h : i ≠ j) : (l.set i v).getD j 0 = l.getD j 0 := by
  simp [List.getD, h]

theorem signedN {neg : Bool} {A : Option Addr} {c k : Nat} {l : List Int} {m : Int} {w : World} {ok : Nat → Prop} (hk : l.length = k) (hl : Okd 4294967296 l) (hn : k ≤ 1000000000)
    (hf : (⟨.u32, A, c, l⟩ : Rw).at w ok) (hm : m = if neg = true then -(vl 4294967296 l) else vl 4294967296 l) :
    Calls Try.prog 78 #[.bool neg, .slice A k c] w (RetI w ok m) := by
  subst hk
  exact signed_ok neg A c l m w ok hl hn hf hm

/-- Inside the row of one digit d: k digits of Y are done. -/
def MulIn (Y o0 o : List Int) (i : Nat) (d : Int) (k : Nat) (cv : Int) : Prop :=
  o.length = o0.length ∧ Okd 4294967296 o ∧ k ≤ Y.length ∧ 0 ≤ cv ∧ cv < 4294967296 ∧
    vl 4294967296 o + 4294967296 ^ (i + k) * cv = vl 4294967296 o0 + 4294967296 ^ i * (d * vl 4294967296 (Y.take k)) ∧ ∀ j, i + k ≤ j → o.getD j 0 = o0.getD j 0
/-- i digits of X are done. -/
def MulOut (X Y o : List Int) (i : Nat) : Prop :=
  o.length = X.length + Y.length ∧ Okd 4294967296 o ∧ i ≤ X.length ∧ vl 4294967296 o = vl 4294967296 (X.take i) * vl 4294967296 Y ∧ ∀ j, i + Y.length ≤ j → o.getD j 0 = 0

theorem mul_fits {d e p q : Int} (d0 : 0 ≤ d) (d1 : d < 4294967296) (e0 : 0 ≤ e) (e1 : e < 4294967296) (p0 : 0 ≤ p) (p1 : p < 4294967296) (q0 : 0 ≤ q) (q1 : q < 4294967296) :
    0 ≤ d * e ∧ d * e ≤ 18446744065119617025 ∧ 0 ≤ d * e + p + q ∧ d * e + p + q ≤ 18446744073709551615 := by
  have h1 : d * e ≤ 4294967295 * e := Int.mul_le_mul_of_nonneg_right (by omega) e0
  have h2 : 0 ≤ d * e := Int.mul_nonneg d0 e0
  omega

theorem MulIn.step {Y o0 o : List Int} {i k : Nat} {d cv e p : Int} (h : MulIn Y o0 o i d k cv) (hk : k < Y.length) (hik : i + k < o.length) (he : Y.getD k 0 = e) (hp : o.getD (i + k) 0 = p) (d0 : 0 ≤ d) (d1 : d < 4294967296) (e0 : 0 ≤ e) (e1 : e < 4294967296) :
    MulIn Y o0 (o.set (i + k) ((d * e + p + cv) % 4294967296)) i d (k + 1) ((d * e + p + cv) / 4294967296) := by
  obtain ⟨h1, h2, h3, h4, h5, h6, h7⟩ := h
  have hpp := h2.getD (by omega) (i + k)
  rw [hp] at hpp
  obtain ⟨f1, f2, f3, f4⟩ := mul_fits d0 d1 e0 e1 hpp.1 hpp.2 h4 h5
  refine ⟨by simp [h1], h2.set _ (by omega) (by omega), by omega, by omega, by omega, ?_, ?_⟩
  · rw [vl_set _ _ _ _ hik, hp, vl_take_succ, he, show i + (k + 1) = (i + k) + 1 by omega, Int.pow_succ]
    generalize hs : d * e + p + cv = s at *
    have e1 : (4294967296 : Int) ^ (i + k) * (s % 4294967296 - p) + 4294967296 ^ (i + k) * 4294967296 * (s / 4294967296) = 4294967296 ^ (i + k) * (s - p) := by
      rw [Int.mul_assoc, ← Int.mul_add]; congr 1; omega
    have e2 : (4294967296 : Int) ^ i * (d * (vl 4294967296 (List.take k Y) + 4294967296 ^ k * e)) = 4294967296 ^ i * (d * vl 4294967296 (List.take k Y)) + 4294967296 ^ (i + k) * (d * e) := by
      rw [Int.mul_add, Int.mul_add, Int.pow_add]
      congr 1
      rw [Int.mul_assoc, Int.mul_left_comm d]
    have e3 : (4294967296 : Int) ^ (i + k) * (s - p) = 4294967296 ^ (i + k) * (d * e) + 4294967296 ^ (i + k) * cv := by
      rw [← Int.mul_add]; congr 1; omega
    omega
  · intro j hj
    rw [getD_set_ne _ _ _ _ (by omega)]
    exact h7 j (by omega)

theorem MulOut.next {X Y o0 o : List Int} {i : Nat} {d cv : Int} (h0 : MulOut X Y o0 i) (hi : i < X.length) (hd : X.getD i 0 = d) (h : MulIn Y o0 o i d Y.length cv) : MulOut X Y (o.set (i + Y.length) cv) (i + 1) := by
  obtain ⟨a1, a2, a3, a4, a5⟩ := h0
  obtain ⟨h1, h2, h3, h4, h5, h6, h7⟩ := h
  refine ⟨by simp [h1, a1], h2.set _ h4 h5, by omega, ?_, ?_⟩
  · rw [vl_set _ _ _ _ (by omega), h7 _ (Nat.le_refl _), a5 _ (Nat.le_refl _), vl_take_succ, hd]
    rw [List.take_of_length_le (Nat.le_refl _), a4] at h6
    rw [Int.add_mul, Int.sub_zero, Int.mul_assoc]
    omega
  · intro j hj
    rw [getD_set_ne _ _ _ _ (by omega), h7 j (by omega), a5 j (by omega)]

theorem MulIn.start {X Y o : List Int} {i : Nat} {d : Int} (h0 : MulOut X Y o i) : MulIn Y o o i d 0 0 := by
  obtain ⟨a1, a2, a3, a4, a5⟩ := h0
  exact ⟨rfl, a2, by omega, by omega, by omega, by simp [vl], fun _ _ => rfl⟩

set_option maxHeartbeats 4000000 in
set_option maxRecDepth 100000 in
theorem Mul_ok (A A' : Option Addr) (c c' : Nat) (m n : Int) (w : World) (ok : Nat → Prop) (hf : (bw A c m).at w ok) (hf' : (bw A' c' n).at w ok) (hm : ln m ≤ 10000000) (hn : ln n ≤ 10000000) : Calls Try.prog 31 #[.agg #[.bool (ng m), .slice A (ln m) c], .agg #[.bool (ng n), .slice A' (ln n) c']] w (RetI w ok (m * n)) := by
  have hu25 := Try.underlying25
  have H := ((Sit.start w ok).arg hf).arg hf'
  clear hf hf'
  go_enter Try.func31, Try.ntmps31
  go_wp2_with (first
    | ((with_reducible refine gate_dst (N := 2) rfl ?_); refine box_event ?hg (N := 2) ?hd (cs := #[.bool (ng m), .slice A (ln m) c]) (t := 25) ?hr ?_; (case hd => rfl); (case hg => rfl); (case hr => first | (go_simp; done) | (go_simp; rfl)); intro g1 hg w1 hbox hb; replace H := H.newbox hg hbox hb; clear hg hbox hb)
    | ((with_reducible refine gate_dst (N := 3) rfl ?_); refine box_event ?hg (N := 3) ?hd (cs := #[.bool (ng n), .slice A' (ln n) c']) (t := 25) ?hr ?_; (case hd => rfl); (case hg => rfl); (case hr => first | (go_simp; done) | (go_simp; rfl)); intro g2 hg w2 hbox hb; replace H := H.newbox hg hbox hb; clear hg hbox hb)
    | ((with_reducible refine gate_dst (N := 4) rfl ?_); refine box_event ?hg (N := 4) ?hd (cs := #[.bool false, .slice none 0 0]) (t := 25) ?hr ?_; (case hd => rfl); (case hg => rfl); (case hr => first | (go_simp; done) | (go_simp; rfl)); intro g3 hg w3 hbox hb; replace H := H.newbox hg hbox hb; clear hg hbox hb; have kx_0 : w3.cell? ⟨g1, 0, none⟩ = some (.bool (ng m)) := H.cell m2 0; have kx_1 : w3.cell? ⟨g1, 1, none⟩ = some (.slice A (ln m) c) := H.cell m2 1; have ky_0 : w3.cell? ⟨g2, 0, none⟩ = some (.bool (ng n)) := H.cell m1 0; have ky_1 : w3.cell? ⟨g2, 1, none⟩ = some (.slice A' (ln n) c') := H.cell m1 1)
    | ((with_reducible refine gate_dst (N := 19) rfl ?_); refine make_event rfl (N := 19) rfl 23 (.tmp 18) (.tmp 18) rfl .u32 93 4 (ln m + ln n) rfl rfl Try.underlying23 info93 (by omega) (by omega) ?_; intro g4 hg w4 hbox hb; replace H := H.newbox hg hbox hb; clear hg hbox hb kx_0 kx_1 ky_0 ky_1; have kx_0 : w4.cell? ⟨g1, 0, none⟩ = some (.bool (ng m)) := H.cell m3 0; have kx_1 : w4.cell? ⟨g1, 1, none⟩ = some (.slice A (ln m) c) := H.cell m3 1; have ky_0 : w4.cell? ⟨g2, 0, none⟩ = some (.bool (ng n)) := H.cell m2 0; have ky_1 : w4.cell? ⟨g2, 1, none⟩ = some (.slice A' (ln n) c') := H.cell m2 1))
  have hI : MulOut (digs m) (digs n) (List.replicate (ln m + ln n) 0) 0 := ⟨by simp [ln], Okd.replicate (by omega) _, by omega, by rw [vl_replicate]; simp [vl], fun j _ => by simp [List.getD, List.getElem?_replicate]; split <;> rfl⟩
  go_loopw [23] (fun i wr => ∃ (i' : Nat) (o : List Int), i = .int .i64 i' ∧ MulOut (digs m) (digs n) o i' ∧ Sit w wr ok [(g4, .cells (o.map (Value.int .u32)).toArray 93 (0, 0)), (g3, .cells #[.bool false, .slice none 0 0] 25 (0, 0)), (g2, .cells #[.bool (ng n), .slice A' (ln n) c'] 25 (0, 0)), (g1, .cells #[.bool (ng m), .slice A (ln m) c] 25 (0, 0))] [bw A' c' n, bw A c m]) (fun i _ => ln m - (intOf i).toNat)
  case atStart => exact ⟨0, _, rfl, hI, H⟩
  case round =>
    clear H hI kx_0 kx_1 ky_0 ky_1
    obtain ⟨i, o, rfl, hO, H⟩ := hrel
    obtain ⟨wo, rfl⟩ : ∃ wo : World, wo = wr := ⟨_, rfl⟩
    have kx_0 : wo.cell? ⟨g1, 0, none⟩ = some (.bool (ng m)) := H.cell m3 0; have kx_1 : wo.cell? ⟨g1, 1, none⟩ = some (.slice A (ln m) c) := H.cell m3 1; have ky_0 : wo.cell? ⟨g2, 0, none⟩ = some (.bool (ng n)) := H.cell m2 0; have ky_1 : wo.cell? ⟨g2, 1, none⟩ = some (.slice A' (ln n) c') := H.cell m2 1
    by_cases hi : i < ln m
    · obtain ⟨ax, ex, rx⟩ := H.read (f := bw A c m) (.tail _ (.head _)) i hi
      simp only [bw] at ex rx
      subst ex
      obtain ⟨d, hd⟩ : ∃ d, (digs m).getD i 0 = d := ⟨_, rfl⟩
      obtain ⟨d0, d1⟩ := (digs_okd m).getD (by omega) i
      rw [hd] at rx d0 d1
      have HD := Aside0.mk hd
      clear hd
      have hol := hO.1
      have HO := Aside0.mk hO
      clear hO
      go_wp2
      have hI2 := MulIn.start (d := d) HO.out
      go_loopw [8, 31] (fun cy kk wr => ∃ (k : Nat) (cv : Int) (p : List Int), kk = .int .i64 k ∧ cy = .int .u64 cv ∧ MulIn (digs n) o p i d k cv ∧ Sit w wr ok [(g4, .cells (p.map (Value.int .u32)).toArray 93 (0, 0)), (g3, .cells #[.bool false, .slice none 0 0] 25 (0, 0)), (g2, .cells #[.bool (ng n), .slice A' (ln n) c'] 25 (0, 0)), (g1, .cells #[.bool (ng m), .slice (some ax) (ln m) c] 25 (0, 0))] [bw A' c' n, bw (some ax) c m]) (fun _ kk _ => ln n - (intOf kk).toNat)
      case atStart => exact ⟨0, 0, o, rfl, rfl, hI2, H⟩
      case round =>
        clear H hI2 kx_0 kx_1 ky_0 ky_1 rx
        obtain ⟨k, cv, p, rfl, rfl, hI, H⟩ := hrel
        have kx_0 : wr.cell? ⟨g1, 0, none⟩ = some (.bool (ng m)) := H.cell m3 0; have kx_1 : wr.cell? ⟨g1, 1, none⟩ = some (.slice (some ax) (ln m) c) := H.cell m3 1; have ky_0 : wr.cell? ⟨g2, 0, none⟩ = some (.bool (ng n)) := H.cell m2 0; have ky_1 : wr.cell? ⟨g2, 1, none⟩ = some (.slice A' (ln n) c') := H.cell m2 1
        obtain ⟨q1, q2, q3, q4, q5, -, -⟩ := id hI
        by_cases hk : k < ln n
        · obtain ⟨ay, ey, ry⟩ := H.read (f := bw A' c' n) (.head _) k hk
          simp only [bw] at ey ry
          subst ey
          obtain ⟨y, hy⟩ : ∃ y, (digs n).getD k 0 = y := ⟨_, rfl⟩
          obtain ⟨y0, y1⟩ := (digs_okd n).getD (by omega) k
          rw [hy] at ry y0 y1
          obtain ⟨v, hv⟩ : ∃ v, p.getD (i + k) 0 = v := ⟨_, rfl⟩
          obtain ⟨v0, v1⟩ := q2.getD (by omega) (i + k)
          rw [hv] at v0 v1
          have hpl : i + k < p.length := by have : (digs m).length = ln m := rfl; have : (digs n).length = ln n := rfl; omega
          have z0 : wr.cell? ⟨g4, i + k, none⟩ = some (.int .u32 v) := (H.cell (.head _) (i + k)).trans (by rw [← hv]; simp [List.getD, hpl])
          have z1 := H.frozen (g := g4) (.head _) (i + k)
          have T := Aside0.mk (hI.step hk hpl hy hv d0 d1 y0 y1)
          obtain ⟨f1, f2, f3, f4⟩ := mul_fits d0 d1 y0 y1 v0 v1 q4 q5
          have hp2 : i + k < ln m + ln n := by omega
          clear hy hv hI
          go_wp2
          go_roundw
          case rel => exact ⟨k + 1, _, _, by go_num, rfl, T.out, H.setn [] (i + k) _ (by simp [List.map_set])⟩
          case measure => simp [intOf]; omega
        · have ek : k = ln n := by have : (digs n).length = ln n := rfl; omega
          subst ek
          have hpl : i + ln n < p.length := by have : (digs m).length = ln m := rfl; have : (digs n).length = ln n := rfl; omega
          have z0 : wr.cell? ⟨g4, i + ln n, none⟩ = some (.int .u32 (p.getD (i + ln n) 0)) := (H.cell (.head _) (i + ln n)).trans (by simp [List.getD, hpl])
          have z1 := H.frozen (g := g4) (.head _) (i + ln n)
          have T := Aside0.mk (HO.out.next (d := d) hi HD.out hI)
          have hp2 : i + ln n < ln m + ln n := by omega
          clear hI HO
          go_wp2
          go_roundw
          case rel => exact ⟨i + 1, _, by go_num, T.out, H.setn [] (i + ln n) _ (by simp [List.map_set, ln])⟩
          case measure => simp [intOf]; omega
    · have ei : i = ln m := by have := hO.2.2.1; have : (digs m).length = ln m := rfl; omega
      subst ei
      have hol : o.length = ln m + ln n := hO.1
      have hv : vl 4294967296 o = m.natAbs * n.natAbs := by
        have := hO.2.2.2.1
        rw [List.take_of_length_le (show (digs m).length ≤ ln m from Nat.le_refl _), digs_vl, digs_vl] at this
        exact this
      have VE := Aside0.mk (show m * n = if (!(ng m == ng n)) = true then -(vl 4294967296 o) else vl 4294967296 o by
        rw [hv, ← Int.natCast_mul, ← Int.natAbs_mul]
        unfold ng
        by_cases a : m < 0 <;> by_cases b : n < 0 <;> simp only [a, b, decide_true, decide_false, beq_self_eq_true, Bool.not_true, Bool.false_eq_true, if_false, show (!(true == false)) = true from rfl, show (!(false == true)) = true from rfl, if_true]
        · have := Int.mul_pos_of_neg_of_neg a b; omega
        · have := Int.mul_nonneg (show 0 ≤ -m by omega) (show 0 ≤ n by omega); rw [Int.neg_mul] at this; omega
        · have := Int.mul_nonneg (show 0 ≤ m by omega) (show 0 ≤ -n by omega); rw [Int.mul_neg] at this; omega
        · have := Int.mul_nonneg (show 0 ≤ m by omega) (show 0 ≤ n by omega); omega)
      have OO := Aside0.mk hO.2.1
      clear hO hv
      go_wp2_with (go_at_call 78; (with_reducible refine (signedN (l := o) (m := m * n) (ok := fun j => j = g4) hol OO.out (by omega) (box_row (e := 93) (H.blk (List.Mem.head _)) hol (Nat.le_refl _) (by omega)) VE.out).mono ?_); rintro e w5 ⟨A5, c5, rfl, hr, hb⟩; replace H := H.own hr hb; clear hr hb kx_0 kx_1 ky_0 ky_1; have z_0 : w5.cell? ⟨g3, 0, none⟩ = some (.bool false) := H.cell m0 0; have z_1 : w5.cell? ⟨g3, 1, none⟩ = some (.slice none 0 0) := H.cell m0 1; have zz_0 := H.frozen (g := g3) m0 0; have zz_1 := H.frozen (g := g3) m0 1)
      refine bodyPost_ret (results_cell_row rfl _ _ g3 25 #[.bool (ng (m * n)), .slice A5 (ln (m * n)) c5] (0, 0) _ rfl (((H.setn [] 0 (.bool (ng (m * n))) rfl).setn [] 1 (.slice A5 (ln (m * n)) c5) rfl).blk (.head _)) Try.underlying25 rfl (by kernel_rfl)) rfl ?_
      replace H := (H.setn [] 0 (.bool (ng (m * n))) rfl).setn [] 1 (.slice A5 (ln (m * n)) c5) rfl
      exact ⟨A5, c5, rfl, H.ret (.head _), H.below⟩

end Go.Proofs.Ytdkapdgbfejgdaa
