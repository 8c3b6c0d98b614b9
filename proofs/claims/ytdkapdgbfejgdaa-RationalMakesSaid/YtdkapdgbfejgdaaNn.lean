/- ontimeref01.Div: the quotient and the remainder; ontimeref02.one. -/
import Derived.Test.YtdkapdgbfejgdaaSq
import Derived.Test.YtdkapdgbfejgdaaNk
import Derived.Test.YtdkapdgbfejgdaaSb
import Derived.Test.YtdkapdgbfejgdaaZ
/- ontimeref01.Mul: the product. -/
set_option linter.unusedVariables false
set_option linter.unusedSimpArgs false
namespace Go.Proofs.Ytdkapdgbfejgdaa
open Go.RowKit Go.Proofs.YtdkapdgbfejgdaaW.PrintWords Go.Proofs.YtdkapdgbfejgdaaW.PrintLast Go.Proofs.YtdkapdgbfejgdaaW.PrintMore

theorem Sit.rdv {w0 w : World} {ok : Nat → Prop} {bs : List (Nat × Obj)} {fs : List Rw} (h : Sit w0 w ok bs fs) {k : IntKind} {ax : Addr} {c : Nat} {l : List Int} (hm : (⟨k, some ax, c, l⟩ : Rw) ∈ fs) (i : Nat) (hi : i < l.length) (d : Int) (hd : l.getD i 0 = d) : w.cell? (ax.add i) = some (.int k d) := by
  obtain ⟨ad, e, hc⟩ := h.read hm i hi
  injection e with e
  subst e
  rw [hc]
  show some (Value.int k (l.getD i 0)) = _
  rw [hd]
theorem digitX {A : Option Addr} {c : Nat} {x : Int} {w : World} {ok : Nat → Prop} (i : Nat) (hf : (nw A c x).at w ok) (r : Int) (hr : (dl x).getD i 0 = r) : Calls Try.prog 91 #[.slice A (dn x) c, .int .i64 (i : Int)] w (RetI64 r w) := digitN i rfl hf r hr
theorem cellT {l : List Int} {i : Nat} (h : i < l.length) (v : Int) (hv : l.getD i 0 = v) : ((l.map (Value.int .i64)).toArray)[i]? = some (.int .i64 v) := by rw [← hv]; simp [List.getD, h]
def MulInT (Y o0 o : List Int) (i : Nat) (d : Int) (k : Nat) (cv : Int) : Prop :=
  o.length = o0.length ∧ Okd 10 o ∧ (k ≤ Y.length ∨ (k = Y.length + 1 ∧ cv = 0)) ∧ 0 ≤ cv ∧ cv < 10 ∧
    vl 10 o + 10 ^ (i + k) * cv = vl 10 o0 + 10 ^ i * (d * vl 10 (Y.take k)) ∧ (∀ j, i + k ≤ j → o.getD j 0 = o0.getD j 0) ∧ o0.getD (i + Y.length) 0 = 0
def MulOutT (X Y o : List Int) (i : Nat) : Prop :=
  o.length = X.length + Y.length + 1 ∧ Okd 10 o ∧ i ≤ X.length ∧ vl 10 o = vl 10 (X.take i) * vl 10 Y ∧ ∀ j, i + Y.length ≤ j → o.getD j 0 = 0
theorem mul81 {d e : Int} (d0 : 0 ≤ d) (d1 : d < 10) (e0 : 0 ≤ e) (e1 : e < 10) : 0 ≤ d * e ∧ d * e ≤ 81 := by
  have h1 : d * e ≤ 9 * e := Int.mul_le_mul_of_nonneg_right (by omega) e0
  have h2 : 0 ≤ d * e := Int.mul_nonneg d0 e0
  omega
theorem MulInT.step {Y o0 o : List Int} {i k : Nat} {d cv e v : Int} (h : MulInT Y o0 o i d k cv) (hk : k ≤ Y.length) (hik : i + k < o.length) (hY : Okd 10 Y) (he : Y.getD k 0 = e) (hv : o.getD (i + k) 0 = v) (d0 : 0 ≤ d) (d1 : d < 10) :
    MulInT Y o0 (o.set (i + k) ((v + d * e + cv).tmod 10)) i d (k + 1) ((v + d * e + cv).tdiv 10) := by
  obtain ⟨h1, h2, h3, h4, h5, h6, h7, h8⟩ := h
  have gv := h2.getD (by omega) (i + k)
  have ge := hY.getD (by omega) k
  rw [hv] at gv
  rw [he] at ge
  obtain ⟨f1, f2⟩ := mul81 d0 d1 ge.1 ge.2
  rw [Int.tmod_eq_emod_of_nonneg (by omega), Int.tdiv_eq_ediv_of_nonneg (by omega)]
  refine ⟨by simp [h1], h2.set _ (by omega) (by omega), ?_, by omega, by omega, ?_, ?_, h8⟩
  · by_cases hl : k < Y.length
    · exact .inl (by omega)
    · have ek : k = Y.length := by omega
      have e0 : e = 0 := by rw [← he]; exact getD_big (by omega)
      have v0 : v = 0 := by rw [← hv, h7 _ (Nat.le_refl _), ek]; exact h8
      subst e0 v0
      exact .inr ⟨by omega, by omega⟩
  · rw [vl_set _ _ _ _ hik, hv, vl_take_succ, he, show i + (k + 1) = (i + k) + 1 by omega, Int.pow_succ]
    generalize hs : v + d * e + cv = s at *
    have e1 : (10 : Int) ^ (i + k) * (s % 10 - v) + 10 ^ (i + k) * 10 * (s / 10) = 10 ^ (i + k) * (s - v) := by
      rw [Int.mul_assoc, ← Int.mul_add]; congr 1; omega
    have e2 : (10 : Int) ^ i * (d * (vl 10 (List.take k Y) + 10 ^ k * e)) = 10 ^ i * (d * vl 10 (List.take k Y)) + 10 ^ (i + k) * (d * e) := by
      rw [Int.mul_add, Int.mul_add, Int.pow_add]
      congr 1
      rw [Int.mul_assoc, Int.mul_left_comm d]
    have e3 : (10 : Int) ^ (i + k) * (s - v) = 10 ^ (i + k) * (d * e) + 10 ^ (i + k) * cv := by
      rw [← Int.mul_add]; congr 1; omega
    omega
  · intro j hj
    rw [getD_set_ne _ _ _ _ (by omega)]
    exact h7 j (by omega)
theorem MulOutT.next {X Y o0 o : List Int} {i k : Nat} {d cv : Int} (h0 : MulOutT X Y o0 i) (hi : i < X.length) (hd : X.getD i 0 = d) (h : MulInT Y o0 o i d k cv) (hk : ¬ k < Y.length) (hc : ¬ 0 < cv) : MulOutT X Y o (i + 1) := by
  obtain ⟨a1, a2, a3, a4, a5⟩ := h0
  obtain ⟨h1, h2, h3, h4, h5, h6, h7, h8⟩ := h
  have c0 : cv = 0 := by omega
  subst c0
  refine ⟨by omega, h2, by omega, ?_, ?_⟩
  · rw [List.take_of_length_le (by omega), a4] at h6
    rw [vl_take_succ, hd, Int.add_mul, Int.mul_assoc]
    omega
  · intro j hj
    rw [h7 j (by omega), a5 j (by omega)]
theorem MulInT.start {X Y o : List Int} {i : Nat} {d : Int} (h0 : MulOutT X Y o i) : MulInT Y o o i d 0 0 := by
  obtain ⟨a1, a2, a3, a4, a5⟩ := h0
  exact ⟨rfl, a2, .inl (by omega), by omega, by omega, by simp [vl], fun _ _ => rfl, a5 _ (Nat.le_refl _)⟩
theorem sg_abs (x y r : Int) (h : x * y = r) : (if ((x.natAbs : Int) * (y.natAbs : Int)) = 0 then 0 else sg x * sg y) = sg r ∧ (r.natAbs : Int) = (x.natAbs : Int) * (y.natAbs : Int) := by
  subst h
  have e : ((x * y).natAbs : Int) = (x.natAbs : Int) * (y.natAbs : Int) := by rw [Int.natAbs_mul]; simp
  refine ⟨?_, e⟩
  rcases Int.lt_trichotomy x 0 with hx | hx | hx <;> rcases Int.lt_trichotomy y 0 with hy | hy | hy
  · have := Int.mul_pos_of_neg_of_neg hx hy; rw [if_neg (by omega)]; unfold sg; rw [if_pos hx, if_pos hy, if_neg (by omega), if_neg (by omega)]; rfl
  · subst hy; simp [sg]
  · have := Int.mul_neg_of_neg_of_pos hx hy; rw [if_neg (by omega)]; unfold sg; rw [if_pos hx, if_neg (by omega), if_neg (by omega), if_pos this]; rfl
  · subst hx; simp [sg]
  · subst hx; simp [sg]
  · subst hx; simp [sg]
  · have := Int.mul_neg_of_pos_of_neg hx hy; rw [if_neg (by omega)]; unfold sg; rw [if_neg (by omega), if_neg (by omega), if_pos hy, if_pos this]; rfl
  · subst hy; simp [sg]
  · have := Int.mul_pos hx hy; rw [if_neg (by omega)]; unfold sg; rw [if_neg (by omega), if_neg (by omega), if_neg (by omega), if_neg (by omega), if_neg (by omega), if_neg (by omega)]; rfl
theorem sg_three (z : Int) : sg z = -1 ∨ sg z = 0 ∨ sg z = 1 := by
  unfold sg
  by_cases h : z < 0
  · exact .inl (if_pos h)
  · rw [if_neg h]
    by_cases h2 : z = 0
    · exact .inr (.inl (if_pos h2))
    · exact .inr (.inr (if_neg h2))
theorem sg_rng (x y : Int) : -1 ≤ sg x * sg y ∧ sg x * sg y ≤ 1 := by
  rcases sg_three x with h1 | h1 | h1 <;> rcases sg_three y with h2 | h2 | h2 <;> rw [h1, h2] <;> decide
theorem mul_nums {v d e cv de s1 s : Int} {i k j N nx ny : Nat} (v0 : 0 ≤ v) (v1 : v < 10) (f1 : 0 ≤ d * e) (f2 : d * e ≤ 81) (c0 : 0 ≤ cv) (c1 : cv < 10) (hde : d * e = de) (h1 : v + de = s1) (hs : s1 + cv = s) (hj : i + k = j) (hN : nx + ny + 1 = N) (hx : nx ≤ 100000) (hy : ny ≤ 100000) (hi : i < nx) (hk : k ≤ ny) :
    wrap64 ((i : Int) + (k : Int)) = (j : Int) ∧ wrap64 (d * e) = de ∧ wrap64 (v + de) = s1 ∧ wrap64 (s1 + cv) = s ∧ (0 ≤ s.tdiv 10 ∧ s.tdiv 10 ≤ 9) ∧ (0 ≤ s.tmod 10 ∧ s.tmod 10 ≤ 9) := by
  have t2 : s.tdiv 10 = s / 10 := Int.tdiv_eq_ediv_of_nonneg (by omega)
  have t3 : s.tmod 10 = s % 10 := Int.tmod_eq_emod_of_nonneg (by omega)
  refine ⟨?_, ?_, ?_, ?_, ?_, ?_⟩
  · rw [w64 (by omega) (by omega)]; omega
  · rw [w64 (by omega) (by omega)]; exact hde
  · rw [w64 (by omega) (by omega)]; exact h1
  · rw [w64 (by omega) (by omega)]; exact hs
  · rw [t2]; omega
  · rw [t3]; omega

set_option maxHeartbeats 8000000 in
set_option maxRecDepth 100000 in
theorem MulN {A A' : Option Addr} {c c' : Nat} {x y : Int} {w : World} {ok : Nat → Prop} (hf : (nw A c x).at w ok) (hf' : (nw A' c' y).at w ok) (hm : dn x ≤ 100000) (hn : dn y ≤ 100000) (r : Int) (hr : x * y = r) : Calls Try.prog 58 #[.agg #[.int .i64 (sg x), .slice A (dn x) c], .agg #[.int .i64 (sg y), .slice A' (dn y) c']] w (RetNm w ok r) := by
  have hu31 := Try.underlying31
  have HR := Aside0.mk hr
  obtain ⟨N, hN⟩ : ∃ N, dn x + dn y + 1 = N := ⟨_, rfl⟩
  have HN := Aside0.mk hN
  clear hN
  have H := ((Sit.start w ok).arg hf).arg hf'
  clear hf hf' hr
  go_enter Try.func58, Try.ntmps58
  go_wp2_with (first
    | ((with_reducible refine gate_dst (N := 2) rfl ?_); refine bE #[.int .i64 (sg x), .slice A (dn x) c] 31 H ?_; clear H; intro g2 w1 H)
    | ((with_reducible refine gate_dst (N := 3) rfl ?_); refine bE #[.int .i64 (sg y), .slice A' (dn y) c'] 31 H ?_; clear H; intro g3 w2 H)
    | ((with_reducible refine gate_dst (N := 4) rfl ?_); refine bE #[.int .i64 0, .slice none 0 0] 31 H ?_; clear H; intro g4 w3 H; have kx_0 : w3.cell? ⟨g2, 0, none⟩ = some (.int .i64 (sg x)) := H.cell m2 0; have kx_1 : w3.cell? ⟨g2, 1, none⟩ = some (.slice A (dn x) c) := H.cell m2 1; have ky_0 : w3.cell? ⟨g3, 0, none⟩ = some (.int .i64 (sg y)) := H.cell m1 0; have ky_1 : w3.cell? ⟨g3, 1, none⟩ = some (.slice A' (dn y) c') := H.cell m1 1)
    | ((with_reducible refine gate_dst (N := 18) rfl ?_); refine make_event rfl (N := 18) rfl 29 (.tmp 17) (.tmp 17) rfl .i64 3 8 N (by show Value.int _ _ = Value.int _ _; congr 1; rw [← HN.out]; omega) (by show Value.int _ _ = Value.int _ _; congr 1; rw [← HN.out]; omega) Try.underlying29 P.info3 (by have := HN.out; omega) (by have := HN.out; omega) ?_; intro g5 hg w4 hbox hb; replace H := H.newbox hg hbox hb; clear hg hbox hb kx_0 kx_1 ky_0 ky_1; have kx_0 : w4.cell? ⟨g2, 0, none⟩ = some (.int .i64 (sg x)) := H.cell m3 0; have kx_1 : w4.cell? ⟨g2, 1, none⟩ = some (.slice A (dn x) c) := H.cell m3 1; have kxz_0 := H.frozen (g := g2) m3 0; have kxz_1 := H.frozen (g := g2) m3 1; have ky_0 : w4.cell? ⟨g3, 0, none⟩ = some (.int .i64 (sg y)) := H.cell m2 0; have ky_1 : w4.cell? ⟨g3, 1, none⟩ = some (.slice A' (dn y) c') := H.cell m2 1; have kyz_0 := H.frozen (g := g3) m2 0; have kyz_1 := H.frozen (g := g3) m2 1))
  have hI : MulOutT (dl x) (dl y) (List.replicate N 0) 0 := ⟨by rw [← HN.out]; simp [dn], Okd.replicate (by omega) _, by omega, by rw [vl_replicate]; simp [vl], fun j _ => by simp [List.getD, List.getElem?_replicate]; split <;> rfl⟩
  go_loopw [6] (fun i wr => ∃ (i' : Nat) (o : List Int), i = .int .i64 i' ∧ MulOutT (dl x) (dl y) o i' ∧ Sit w wr ok [(g5, .cells (o.map (Value.int .i64)).toArray 3 (0, 0)), (g4, .cells #[.int .i64 0, .slice none 0 0] 31 (0, 0)), (g3, .cells #[.int .i64 (sg y), .slice A' (dn y) c'] 31 (0, 0)), (g2, .cells #[.int .i64 (sg x), .slice A (dn x) c] 31 (0, 0))] [nw A' c' y, nw A c x]) (fun i _ => dn x - (intOf i).toNat)
  case atStart => exact ⟨0, _, rfl, hI, H⟩
  case round =>
    clear H hI kx_0 kx_1 kxz_0 kxz_1 ky_0 ky_1 kyz_0 kyz_1
    obtain ⟨i, o, rfl, hO, H⟩ := hrel
    obtain ⟨wo, rfl⟩ : ∃ wo : World, wo = wr := ⟨_, rfl⟩
    have kx_0 : wo.cell? ⟨g2, 0, none⟩ = some (.int .i64 (sg x)) := H.cell m3 0; have kx_1 : wo.cell? ⟨g2, 1, none⟩ = some (.slice A (dn x) c) := H.cell m3 1; have kxz_0 := H.frozen (g := g2) m3 0; have kxz_1 := H.frozen (g := g2) m3 1; have ky_0 : wo.cell? ⟨g3, 0, none⟩ = some (.int .i64 (sg y)) := H.cell m2 0; have ky_1 : wo.cell? ⟨g3, 1, none⟩ = some (.slice A' (dn y) c') := H.cell m2 1; have kyz_0 := H.frozen (g := g3) m2 0; have kyz_1 := H.frozen (g := g3) m2 1
    by_cases hi : i < dn x
    · obtain ⟨ax, ex, -⟩ := H.read (f := nw A c x) m1 i hi
      simp only [nw] at ex
      subst ex
      obtain ⟨d, hd⟩ : ∃ d, (dl x).getD i 0 = d := ⟨_, rfl⟩
      obtain ⟨d0, d1⟩ := (dl_okd x).getD (by omega) i
      rw [hd] at d0 d1
      have HD := Aside0.mk hd
      have HI := Aside0.mk (show i < (dl x).length from hi)
      clear hd
      have HO := Aside0.mk hO
      clear hO
      go_wp2
      have hI2 := MulInT.start (d := d) HO.out
      go_loopw [7, 8] (fun cy kk wr => ∃ (k : Nat) (cv : Int) (p : List Int), kk = .int .i64 k ∧ cy = .int .i64 cv ∧ MulInT (dl y) o p i d k cv ∧ Sit w wr ok [(g5, .cells (p.map (Value.int .i64)).toArray 3 (0, 0)), (g4, .cells #[.int .i64 0, .slice none 0 0] 31 (0, 0)), (g3, .cells #[.int .i64 (sg y), .slice A' (dn y) c'] 31 (0, 0)), (g2, .cells #[.int .i64 (sg x), .slice (some ax) (dn x) c] 31 (0, 0))] [nw A' c' y, nw (some ax) c x]) (fun _ kk _ => dn y + 2 - (intOf kk).toNat)
      case atStart => exact ⟨0, 0, o, rfl, rfl, hI2, H⟩
      case round =>
        clear H hI2 kx_0 kx_1 kxz_0 kxz_1 ky_0 ky_1 kyz_0 kyz_1
        obtain ⟨k, cv, p, rfl, rfl, hI, H⟩ := hrel
        have kx_0 : wr.cell? ⟨g2, 0, none⟩ = some (.int .i64 (sg x)) := H.cell m3 0; have kx_1 : wr.cell? ⟨g2, 1, none⟩ = some (.slice (some ax) (dn x) c) := H.cell m3 1; have kxz_0 := H.frozen (g := g2) m3 0; have kxz_1 := H.frozen (g := g2) m3 1; have ky_0 : wr.cell? ⟨g3, 0, none⟩ = some (.int .i64 (sg y)) := H.cell m2 0; have ky_1 : wr.cell? ⟨g3, 1, none⟩ = some (.slice A' (dn y) c') := H.cell m2 1; have kyz_0 := H.frozen (g := g3) m2 0; have kyz_1 := H.frozen (g := g3) m2 1
        obtain ⟨q1, q2, q3, q4, q5, -, -, -⟩ := id hI
        have hkb : k ≤ dn y + 1 := by have : (dl y).length = dn y := rfl; omega
        by_cases hb : k < dn y ∨ 0 < cv
        · have hk : k ≤ dn y := by have : (dl y).length = dn y := rfl; omega
          obtain ⟨e, he⟩ : ∃ e, (dl y).getD k 0 = e := ⟨_, rfl⟩
          obtain ⟨e0, e1⟩ := (dl_okd y).getD (by omega) k
          rw [he] at e0 e1
          obtain ⟨v, hv⟩ : ∃ v, p.getD (i + k) 0 = v := ⟨_, rfl⟩
          obtain ⟨v0, v1⟩ := q2.getD (by omega) (i + k)
          rw [hv] at v0 v1
          have hol := HO.out.1
          have lx : (dl x).length = dn x := rfl
          have ly : (dl y).length = dn y := rfl
          have hN := HN.out
          obtain ⟨j, hj⟩ : ∃ j, i + k = j := ⟨_, rfl⟩
          have hpl : j < p.length := by omega
          have b1 : j < N := by omega
          have hpN : p.length = N := by omega
          rw [hj] at hv
          have HZ := Aside0.mk (cellT hpl v hv)
          have z0 := (H.cell m0 j).trans HZ.out
          have z1 := H.frozen (g := g5) m0 j
          have zx := H.rdv m1 i HI.out d HD.out
          obtain ⟨f1, f2⟩ := mul81 d0 d1 e0 e1
          obtain ⟨de, hde⟩ : ∃ de, d * e = de := ⟨_, rfl⟩
          obtain ⟨s1, hs1⟩ : ∃ s1, v + de = s1 := ⟨_, rfl⟩
          obtain ⟨s, hs⟩ : ∃ s, s1 + cv = s := ⟨_, rfl⟩
          have T := Aside0.mk (show MulInT (dl y) o (p.set j (s.tmod 10)) i d (k + 1) (s.tdiv 10) by
            have := hI.step (v := v) hk (by omega) (dl_okd y) he (by rw [hj]; exact hv) d0 d1
            rw [hj, hde, hs1, hs] at this
            exact this)
          have X := Aside0.mk (mul_nums v0 v1 f1 f2 q4 q5 hde hs1 hs hj hN hm hn hi hk)
          have HE := Aside0.mk he
          have hi' := hi
          have HJ := Aside0.mk hj
          clear he hv hI q1 q3 hol lx ly hN hj hde hs1 hs f1 f2 v0 v1 e0 e1
          have hcs : (k < dn y ∧ decide (k < dn y) = true) ∨ (¬ k < dn y ∧ 0 < cv ∧ decide (k < dn y) = false ∧ decide (0 < cv) = true) := by
            by_cases h : k < dn y
            · exact .inl ⟨h, decide_eq_true h⟩
            · exact .inr ⟨h, by omega, decide_eq_false h, decide_eq_true (by omega)⟩
          have hM : k + 1 ≤ dn y + 1 := by omega
          clear hb
          obtain ⟨xj, x1, x2, x3, ⟨x5, x6⟩, x7, x8⟩ := X.out
          rcases hcs with ⟨c1, c3⟩ | ⟨c1, c2, c3, c4⟩
          all_goals
            go_upto_region 9 with fail
            (try simp only [nn])
            clear kx_0 kx_1 kxz_0 kxz_1 ky_0 ky_1 kyz_0 kyz_1 z0 z1 zx
            replace H := H.drew
            refine start_ (n := 20) (S := fun w' => w'.cell? ⟨g5, j, none⟩ = some (.int .i64 v) ∧ w'.cell? ⟨g2, 1, none⟩ = some (.slice (some ax) (dn x) c) ∧ w'.cell? (ax.add i) = some (.int .i64 d) ∧ w'.cell? ⟨g3, 1, none⟩ = some (.slice A' (dn y) c')) (ds := []) #[false, false, false, false, false, false, false, false, false, false, false, false, false, false, false, false, false, false, false, false] (by kernel_rfl) rfl rfl ⟨(H.cell m0 j).trans HZ.out, H.cell m3 1, H.rdv m1 i HI.out d HD.out, H.cell m2 1⟩ (fun hHeld => ?_)
            refine pU 0 37 (bm 20 1) ?_
            refine pU 1 38 (bm 20 3) ?_
            refine pU 2 39 (bm 20 7) ?_
            refine pU 3 40 (bm 20 15) ?_
            refine pU 4 41 (bm 20 31) ?_
            refine pU 6 43 (bm 20 95) ?_
            refine pU 8 45 (bm 20 351) ?_
            refine pU 11 48 (bm 20 2399) ?_
            refine pU 13 50 (bm 20 10591) ?_
            refine pU 17 54 (bm 20 141663) ?_
            refine tU hHeld 5 42 (bm 20 141695) ?_
            refine tU hHeld 7 44 (bm 20 141823) ?_
            refine pU 9 46 (bm 20 142335) ?_
            refine tU hHeld 10 47 (bm 20 143359) ?_
            refine tU hHeld 12 49 (bm 20 147455) ?_
            refine oU 14 51 (bm 20 163839) (fun K hK => ?_)
            refine gT Try.func91 #[.slice A' (dn y) c', .int .i64 (k : Int)] ?_
            with_reducible refine (digitX k (H.row _ m0) e HE.out).mono ?_
            rintro e w6 ⟨rfl, hb⟩
            refine ⟨_, rfl, ?_⟩
            replace H := H.call hb
            clear hb
            refine hK.out _ _ ⟨(H.cell m0 j).trans HZ.out, H.cell m3 1, H.rdv m1 i HI.out d HD.out, H.cell m2 1⟩ (fun hHeld => ?_)
            clear hK K
            refine nT ?_
            refine pU 15 52 (bm 20 196607) ?_
            refine pU 16 53 (bm 20 262143) ?_
            refine pU 18 55 (bm 20 524287) ?_
            refine pU 19 9 (bm 20 1048575) ?_
            refine done_ (by kernel_rfl) ?_
            have z0 := (H.cell m0 j).trans HZ.out
            have z1 := H.frozen (g := g5) m0 j
            clear xj x1 x2 x3
            obtain rfl := HJ.out
            go_wp2
            go_roundw
            case rel =>
              exact ⟨k + 1, _, _, by go_num, rfl, T.out, H.setn [] (i + k) _ (by simp [List.map_set])⟩
            case measure =>
              simp [intOf]; omega
        · have c1 : ¬ k < dn y := fun h => hb (.inl h)
          have c2 : ¬ 0 < cv := fun h => hb (.inr h)
          have c3 : decide (k < dn y) = false := decide_eq_false c1
          have c4 : decide (0 < cv) = false := decide_eq_false c2
          have T := Aside0.mk (HO.out.next (d := d) HI.out HD.out hI (fun h => hb (.inl h)) (fun h => hb (.inr h)))
          clear hI hb
          go_wp2
          go_roundw
          case rel => exact ⟨i + 1, _, by go_num, T.out, H⟩
          case measure => simp [intOf]; omega
    · have ei : i = dn x := by have := hO.2.2.1; have : (dl x).length = dn x := rfl; omega
      subst ei
      have hN := HN.out
      have hol : o.length = N := by have := hO.1; have : (dl x).length = dn x := rfl; have : (dl y).length = dn y := rfl; omega
      have hv : vl 10 o = (x.natAbs : Int) * (y.natAbs : Int) := by
        have := hO.2.2.2.1
        rw [List.take_of_length_le (show (dl x).length ≤ dn x from Nat.le_refl _), dl_vl, dl_vl] at this
        exact this
      obtain ⟨g1, g2'⟩ := sg_abs x y r HR.out
      rw [← hv] at g1 g2'
      have V1 := Aside0.mk g1
      have V2 := Aside0.mk g2'
      have OO := Aside0.mk hO.2.1
      obtain ⟨p0, p1⟩ := sg_rng x y
      clear hO hv g1 g2'
      go_wp2_with (go_at_call 75; (with_reducible refine (numberN (a := o) (x := r) (ok := fun j => j = g5) (sg x * sg y) hol (by omega) OO.out (box_row (e := 3) (H.blk m0) hol (Nat.le_refl _) (by omega)) V1.out V2.out).mono ?_); rintro e w5 ⟨A5, c5, rfl, hr, hb⟩; replace H := H.own hr hb; clear hr hb kx_0 kx_1 kxz_0 kxz_1 ky_0 ky_1 kyz_0 kyz_1; have k4z_0 := H.frozen (g := g4) m0 0; have k4z_1 := H.frozen (g := g4) m0 1; have k4_0 := H.cell (g := g4) m0 0; have k4_1 := H.cell (g := g4) m0 1)
      replace H := (H.setn [] 0 (.int .i64 (sg r)) rfl).setn [] 1 (.slice A5 (dn r) c5) rfl
      refine bodyPost_ret (results_cell_row rfl _ _ g4 31 #[.int .i64 (sg r), .slice A5 (dn r) c5] (0, 0) _ rfl (H.blk m0) Try.underlying31 rfl (by kernel_rfl)) rfl ?_
      exact ⟨A5, c5, rfl, H.ret m0, H.below⟩

end Go.Proofs.Ytdkapdgbfejgdaa

/- ontimeref01.Add, Cmp; ontimeref02.one. -/
namespace Go.Proofs.Ytdkapdgbfejgdaa
open Go.RowKit Go.Proofs.YtdkapdgbfejgdaaW.PrintWords Go.Proofs.YtdkapdgbfejgdaaW.PrintLast Go.Proofs.YtdkapdgbfejgdaaW.PrintMore
set_option linter.unusedSimpArgs false
set_option linter.unusedVariables false
set_option maxHeartbeats 8000000
set_option maxRecDepth 100000

theorem compareX {A A' : Option Addr} {c c' : Nat} {x y : Int} {w : World} {ok : Nat → Prop} (hf : (nw A c x).at w ok) (hf' : (nw A' c' y).at w ok) (hm : dn x ≤ 1000000) (hn : dn y ≤ 1000000) (r : Int) (hr : cmp3 (x.natAbs : Int) (y.natAbs : Int) = r) : Calls Try.prog 89 #[.slice A (dn x) c, .slice A' (dn y) c'] w (RetI64 r w) :=
  compareN (dl_okd x) (dl_okd y) hm hn rfl rfl hf hf' r (by rw [dl_vl, dl_vl]; exact hr)
theorem dn_bound (x : Int) (k : Nat) (h : x.natAbs < 10 ^ k) : dn x ≤ k := dg_len_le 10 (by omega) _ _ h
theorem dn_lt (x : Int) : x.natAbs < 10 ^ dn x := dg_lt 10 (by omega) _
theorem dAdd {x y r : Int} {a b : Nat} (hx : dn x ≤ a) (hy : dn y ≤ b) (h : x + y = r) : dn r ≤ max a b + 1 := by
  refine dn_bound r _ ?_
  have h1 := Nat.lt_of_lt_of_le (dn_lt x) (Nat.pow_le_pow_right (by omega) (Nat.le_trans hx (Nat.le_max_left a b)))
  have h2 := Nat.lt_of_lt_of_le (dn_lt y) (Nat.pow_le_pow_right (by omega) (Nat.le_trans hy (Nat.le_max_right a b)))
  have h3 : (10 : Nat) ^ (max a b + 1) = 10 ^ max a b * 10 := Nat.pow_succ ..
  omega
theorem dMul {x y r : Int} {a b : Nat} (hx : dn x ≤ a) (hy : dn y ≤ b) (h : x * y = r) : dn r ≤ a + b := by
  refine dn_bound r _ ?_
  have h1 := Nat.lt_of_lt_of_le (dn_lt x) (Nat.pow_le_pow_right (by omega) hx)
  have h2 := Nat.lt_of_lt_of_le (dn_lt y) (Nat.pow_le_pow_right (by omega) hy)
  rw [← h, Int.natAbs_mul, Nat.pow_add]
  exact Nat.mul_lt_mul'' h1 h2
theorem dLe {x r : Int} {a : Nat} (hx : dn x ≤ a) (h : r.natAbs ≤ x.natAbs) : dn r ≤ a := by
  refine dn_bound r _ ?_
  have h1 := Nat.lt_of_lt_of_le (dn_lt x) (Nat.pow_le_pow_right (by omega) hx)
  omega
theorem add_sgn {x y r : Int} (h : x + y = r) (hs : sg x = sg y) (hx : x ≠ 0) : (if (x.natAbs : Int) + y.natAbs = 0 then 0 else sg x) = sg r ∧ (r.natAbs : Int) = x.natAbs + y.natAbs := by
  unfold sg at *
  subst h
  repeat' split at hs
  all_goals first | omega | (refine ⟨?_, by omega⟩; repeat' split <;> omega) | (repeat' split <;> omega)
theorem sub_sgn {x y r : Int} (h : x + y = r) (hs : sg x ≠ sg y) (hx : x ≠ 0) (hy : y ≠ 0) (hc : y.natAbs ≤ x.natAbs) : (if (x.natAbs : Int) - y.natAbs = 0 then 0 else sg x) = sg r ∧ (r.natAbs : Int) = x.natAbs - y.natAbs := by
  unfold sg at *
  subst h
  by_cases a : x < 0 <;> by_cases b : y < 0
  · rw [if_pos a, if_pos b] at hs; exact absurd rfl hs
  · refine ⟨?_, by omega⟩; rw [if_pos a]; repeat' split <;> omega
  · refine ⟨?_, by omega⟩; rw [if_neg a]; repeat' split <;> omega
  · rw [if_neg a, if_neg b, if_neg hx, if_neg hy] at hs; exact absurd rfl hs

theorem AddN_0 {A A' : Option Addr} {c c' : Nat} {x y : Int} {w : World} {ok : Nat → Prop} (hf : (nw A c x).at w ok) (hf' : (nw A' c' y).at w ok) (hx : Aside0 (x = 0)) (t1 : (sg x == 0) = true) : Calls Try.prog 56 #[.agg #[.int .i64 (sg x), .slice A (dn x) c], .agg #[.int .i64 (sg y), .slice A' (dn y) c']] w (RetNm w ok y) := by
  have hu31 := Try.underlying31
  have H := ((Sit.start w ok).arg hf).arg hf'
  clear hf hf'
  go_enter Try.func56, Try.ntmps56
  have st2 := trivial
  have st4 := trivial
  have st6 := trivial
  go_wp2_with (first
    | (clear st2; (with_reducible refine gate_dst (N := 2) rfl ?_); refine bE #[.int .i64 (sg x), .slice A (dn x) c] 31 H ?_; clear H; intro g2 w1 H; obtain ⟨k2_0, z2_0, k2_1, z2_1⟩ := H.b2 (g := g2) m0)
    | (clear st4; (with_reducible refine gate_dst (N := 3) rfl ?_); refine bE #[.int .i64 (sg y), .slice A' (dn y) c'] 31 H ?_; clear H; intro g3 w3 H; clear k2_0 z2_0 k2_1 z2_1; obtain ⟨k3_0, z3_0, k3_1, z3_1⟩ := H.b2 (g := g3) m0; obtain ⟨k2_0, z2_0, k2_1, z2_1⟩ := H.b2 (g := g2) m1; have ne_g3_g2 := H.ne (g := g3) (g' := g2) 0 1 rfl rfl (by decide); have ne_g2_g3 := ne_g3_g2.symm)
    | (clear st6; (with_reducible refine gate_dst (N := 4) rfl ?_); refine bE #[.int .i64 0, .slice none 0 0] 31 H ?_; clear H; intro g4 w5 H; clear k3_0 z3_0 k3_1 z3_1 k2_0 z2_0 k2_1 z2_1; obtain ⟨k4_0, z4_0, k4_1, z4_1⟩ := H.b2 (g := g4) m0; obtain ⟨k3_0, z3_0, k3_1, z3_1⟩ := H.b2 (g := g3) m1; obtain ⟨k2_0, z2_0, k2_1, z2_1⟩ := H.b2 (g := g2) m2; have ne_g4_g3 := H.ne (g := g4) (g' := g3) 0 1 rfl rfl (by decide); have ne_g3_g4 := ne_g4_g3.symm; have ne_g4_g2 := H.ne (g := g4) (g' := g2) 0 2 rfl rfl (by decide); have ne_g2_g4 := ne_g4_g2.symm))
  replace H := ((H.setn [] 0 (.int .i64 (sg y)) rfl).setn [] 1 (.slice A' (dn y) c') rfl)
  refine bodyPost_ret (results_cell_row rfl _ _ g4 31 #[.int .i64 (sg y), .slice A' (dn y) c'] (0, 0) _ rfl (H.blk m0) Try.underlying31 rfl (by kernel_rfl)) rfl ?_
  exact ⟨A', c', rfl, H.ret m0, H.below⟩

theorem AddN_1 {A A' : Option Addr} {c c' : Nat} {x y : Int} {w : World} {ok : Nat → Prop} (hf : (nw A c x).at w ok) (hf' : (nw A' c' y).at w ok) (t1 : (sg x == 0) = false) (t2 : (sg y == 0) = true) : Calls Try.prog 56 #[.agg #[.int .i64 (sg x), .slice A (dn x) c], .agg #[.int .i64 (sg y), .slice A' (dn y) c']] w (RetNm w ok x) := by
  have hu31 := Try.underlying31
  have H := ((Sit.start w ok).arg hf).arg hf'
  clear hf hf'
  go_enter Try.func56, Try.ntmps56
  have st2 := trivial
  have st4 := trivial
  have st6 := trivial
  go_wp2_with (first
    | (clear st2; (with_reducible refine gate_dst (N := 2) rfl ?_); refine bE #[.int .i64 (sg x), .slice A (dn x) c] 31 H ?_; clear H; intro g2 w1 H; obtain ⟨k2_0, z2_0, k2_1, z2_1⟩ := H.b2 (g := g2) m0)
    | (clear st4; (with_reducible refine gate_dst (N := 3) rfl ?_); refine bE #[.int .i64 (sg y), .slice A' (dn y) c'] 31 H ?_; clear H; intro g3 w3 H; clear k2_0 z2_0 k2_1 z2_1; obtain ⟨k3_0, z3_0, k3_1, z3_1⟩ := H.b2 (g := g3) m0; obtain ⟨k2_0, z2_0, k2_1, z2_1⟩ := H.b2 (g := g2) m1; have ne_g3_g2 := H.ne (g := g3) (g' := g2) 0 1 rfl rfl (by decide); have ne_g2_g3 := ne_g3_g2.symm)
    | (clear st6; (with_reducible refine gate_dst (N := 4) rfl ?_); refine bE #[.int .i64 0, .slice none 0 0] 31 H ?_; clear H; intro g4 w5 H; clear k3_0 z3_0 k3_1 z3_1 k2_0 z2_0 k2_1 z2_1; obtain ⟨k4_0, z4_0, k4_1, z4_1⟩ := H.b2 (g := g4) m0; obtain ⟨k3_0, z3_0, k3_1, z3_1⟩ := H.b2 (g := g3) m1; obtain ⟨k2_0, z2_0, k2_1, z2_1⟩ := H.b2 (g := g2) m2; have ne_g4_g3 := H.ne (g := g4) (g' := g3) 0 1 rfl rfl (by decide); have ne_g3_g4 := ne_g4_g3.symm; have ne_g4_g2 := H.ne (g := g4) (g' := g2) 0 2 rfl rfl (by decide); have ne_g2_g4 := ne_g4_g2.symm))
  replace H := ((H.setn [] 0 (.int .i64 (sg x)) rfl).setn [] 1 (.slice A (dn x) c) rfl)
  refine bodyPost_ret (results_cell_row rfl _ _ g4 31 #[.int .i64 (sg x), .slice A (dn x) c] (0, 0) _ rfl (H.blk m0) Try.underlying31 rfl (by kernel_rfl)) rfl ?_
  exact ⟨A, c, rfl, H.ret m1, H.below⟩

def tb56.T6 : Bool × List (List Nat × List Nat) := (true, [([], []), ([0], [0]), ([], []), ([2], [2]), ([], []), ([4], [4]), ([3, 5], [3, 5]), ([1, 6, 6], [1, 6]), ([7, 7, 0, 1, 2, 3, 4, 5, 6, 7], [7])])
def tb56.B6 : List Nat := [0, 1, 0, 4, 0, 16, 60, 127, 255]
theorem tb56.tab6 : rtab .any (opsOf Try.f56 6) = tb56.T6 := by kernel_rfl
theorem tb56.bits6 : waitsOk tb56.T6.2 tb56.B6 = true := by kernel_rfl

theorem AddN_2 {A A' : Option Addr} {c c' : Nat} {x y : Int} {w : World} {ok : Nat → Prop} (hf : (nw A c x).at w ok) (hf' : (nw A' c' y).at w ok) (t1 : (sg x == 0) = false) (t2 : (sg y == 0) = false) (t3 : (sg x == sg y) = true) (L : List Int) (hL : Aside0 (L.length ≤ 1000000)) (hO : Aside0 (Okd 10 L)) (r : Int) (hA : Aside0 (∀ (A A' : Option Addr) (c c' n n' : Nat) (w : World) (ok : Nat → Prop), (dl x).length = n → (dl y).length = n' → (⟨.i64, A, c, dl x⟩ : Rw).at w ok → (⟨.i64, A', c', dl y⟩ : Rw).at w ok → Calls Try.prog 88 #[.slice A n c, .slice A' n' c'] w (RetF w L))) (h1 : Aside0 ((if vl 10 L = 0 then 0 else sg x) = sg r)) (h2 : Aside0 ((r.natAbs : Int) = vl 10 L)) : Calls Try.prog 56 #[.agg #[.int .i64 (sg x), .slice A (dn x) c], .agg #[.int .i64 (sg y), .slice A' (dn y) c']] w (RetNm w ok r) := by
  have hu31 := Try.underlying31
  have H := ((Sit.start w ok).arg hf).arg hf'
  clear hf hf'
  go_enter Try.func56, Try.ntmps56
  have st2 := trivial
  have st4 := trivial
  have st6 := trivial
  go_upto_region 6 with (first
    | (clear st2; (with_reducible refine gate_dst (N := 2) rfl ?_); refine bE #[.int .i64 (sg x), .slice A (dn x) c] 31 H ?_; clear H; intro g2 w1 H; obtain ⟨k2_0, z2_0, k2_1, z2_1⟩ := H.b2 (g := g2) m0)
    | (clear st4; (with_reducible refine gate_dst (N := 3) rfl ?_); refine bE #[.int .i64 (sg y), .slice A' (dn y) c'] 31 H ?_; clear H; intro g3 w3 H; clear k2_0 z2_0 k2_1 z2_1; obtain ⟨k3_0, z3_0, k3_1, z3_1⟩ := H.b2 (g := g3) m0; obtain ⟨k2_0, z2_0, k2_1, z2_1⟩ := H.b2 (g := g2) m1; have ne_g3_g2 := H.ne (g := g3) (g' := g2) 0 1 rfl rfl (by decide); have ne_g2_g3 := ne_g3_g2.symm)
    | (clear st6; (with_reducible refine gate_dst (N := 4) rfl ?_); refine bE #[.int .i64 0, .slice none 0 0] 31 H ?_; clear H; intro g4 w5 H; clear k3_0 z3_0 k3_1 z3_1 k2_0 z2_0 k2_1 z2_1; obtain ⟨k4_0, z4_0, k4_1, z4_1⟩ := H.b2 (g := g4) m0; obtain ⟨k3_0, z3_0, k3_1, z3_1⟩ := H.b2 (g := g3) m1; obtain ⟨k2_0, z2_0, k2_1, z2_1⟩ := H.b2 (g := g2) m2; have ne_g4_g3 := H.ne (g := g4) (g' := g3) 0 1 rfl rfl (by decide); have ne_g3_g4 := ne_g4_g3.symm; have ne_g4_g2 := H.ne (g := g4) (g' := g2) 0 2 rfl rfl (by decide); have ne_g2_g4 := ne_g4_g2.symm))
  (try simp only [nn])
  clear k4_0 z4_0 k4_1 z4_1 k3_0 z3_0 k3_1 z3_1 k2_0 z2_0 k2_1 z2_1
  replace H := H.drew
  refine start_ (n := 9) (S := fun w' => w'.cell? ⟨g2, 0, none⟩ = some (.int .i64 (sg x)) ∧ w'.cell? ⟨g2, 1, none⟩ = some (.slice A (dn x) c) ∧ w'.cell? ⟨g3, 0, none⟩ = some (.int .i64 (sg y)) ∧ w'.cell? ⟨g3, 1, none⟩ = some (.slice A' (dn y) c')) (ds := [8]) #[false, false, false, false, false, false, false, false, false] (by kernel_rfl) rfl rfl (H.c2 m2 (H.d2 m1)) (fun hQ => ?_)
  generalize w5.drew = w7 at H hQ ⊢
  refine with_tabW tb56.tab6 tb56.bits6 (fun HT_ HW_ => ?_)
  refine pT HT_ 0 18 (bm 9 1) ?_
  refine pT HT_ 2 20 (bm 9 5) ?_
  refine pT HT_ 4 22 (bm 9 21) ?_
  refine tT HT_ HW_ hQ 1 19 (bm 9 23) ?_
  refine tT HT_ HW_ hQ 3 21 (bm 9 31) ?_
  refine tT HT_ HW_ hQ 5 23 (bm 9 63) ?_
  refine oT HT_ 6 24 (bm 9 127) (fun K hK => ?_)
  refine gT Try.func88 #[.slice A (dn x) c, .slice A' (dn y) c'] ?_
  with_reducible refine (hA.out _ _ _ _ (dn x) (dn y) _ _ rfl rfl (H.row _ m1) (H.row _ m0)).mono ?_
  rintro e w8 ⟨A9, c10, rfl, hr, hb⟩
  replace H := H.got (fresh_row hr) hb
  clear hr hb
  refine ⟨_, rfl, ?_⟩
  refine hK.out _ _ (H.c2 m2 (H.d2 m1)) (fun hQ => ?_)
  clear hK K
  refine nT ?_
  refine oT HT_ 7 25 (bm 9 255) (fun K hK => ?_)
  refine gT Try.func75 #[.int .i64 (sg x), .slice A9 L.length c10] ?_
  with_reducible refine (numberN (sg x) rfl hL.out hO.out (H.row _ m0) r h1.out h2.out).mono ?_
  rintro e w11 ⟨A12, c13, rfl, hr, hb⟩
  replace H := H.got hr hb
  clear hr hb
  refine ⟨_, rfl, ?_⟩
  refine hK.out _ _ (H.c2 m2 (H.d2 m1)) (fun hQ => ?_)
  clear hK K
  refine nT ?_
  refine lT HT_ 8 (bm 9 511) (fun K hK => ?_)
  obtain ⟨k4_0, z4_0, k4_1, z4_1⟩ := H.b2 (g := g4) m0
  obtain ⟨k3_0, z3_0, k3_1, z3_1⟩ := H.b2 (g := g3) m1
  obtain ⟨k2_0, z2_0, k2_1, z2_1⟩ := H.b2 (g := g2) m2
  refine kT ?_
  refine hK.out _ _ ?_
  clear hK K
  refine done_ (done_of HT_.out (by kernel_rfl)) ?_
  try clear hQ
  go_wp2
  replace H := ((H.setn [] 0 (.int .i64 (sg r)) rfl).setn [] 1 (.slice A12 (dn r) c13) rfl)
  refine bodyPost_ret (results_cell_row rfl _ _ g4 31 #[.int .i64 (sg r), .slice A12 (dn r) c13] (0, 0) _ rfl (H.blk m0) Try.underlying31 rfl (by kernel_rfl)) rfl ?_
  exact ⟨A12, c13, rfl, H.ret m0, H.below⟩

def tb56.T8 : Bool × List (List Nat × List Nat) := (true, [([], []), ([0], [0]), ([], []), ([2], [2]), ([], []), ([4], [4]), ([3, 5], [3, 5]), ([1, 6, 6], [1, 6]), ([7, 7, 0, 1, 2, 3, 4, 5, 6, 7], [7])])
def tb56.B8 : List Nat := [0, 1, 0, 4, 0, 16, 60, 127, 255]
theorem tb56.tab8 : rtab .any (opsOf Try.f56 8) = tb56.T8 := by kernel_rfl
theorem tb56.bits8 : waitsOk tb56.T8.2 tb56.B8 = true := by kernel_rfl

theorem AddN_3 {A A' : Option Addr} {c c' : Nat} {x y : Int} {w : World} {ok : Nat → Prop} (hf : (nw A c x).at w ok) (hf' : (nw A' c' y).at w ok) (bx : Aside0 (dn x ≤ 100000)) (by' : Aside0 (dn y ≤ 100000)) (t1 : (sg x == 0) = false) (t2 : (sg y == 0) = false) (t3 : (sg x == sg y) = false) (k : Int) (hk : Aside0 (cmp3 (x.natAbs : Int) (y.natAbs : Int) = k)) (t4 : decide (k < 0) = true) (L : List Int) (hL : Aside0 (L.length ≤ 1000000)) (hO : Aside0 (Okd 10 L)) (r : Int) (hA : Aside0 (∀ (A A' : Option Addr) (c c' n n' : Nat) (w : World) (ok : Nat → Prop), (dl y).length = n → (dl x).length = n' → (⟨.i64, A, c, dl y⟩ : Rw).at w ok → (⟨.i64, A', c', dl x⟩ : Rw).at w ok → Calls Try.prog 90 #[.slice A n c, .slice A' n' c'] w (RetF w L))) (h1 : Aside0 ((if vl 10 L = 0 then 0 else sg y) = sg r)) (h2 : Aside0 ((r.natAbs : Int) = vl 10 L)) : Calls Try.prog 56 #[.agg #[.int .i64 (sg x), .slice A (dn x) c], .agg #[.int .i64 (sg y), .slice A' (dn y) c']] w (RetNm w ok r) := by
  have hu31 := Try.underlying31
  have H := ((Sit.start w ok).arg hf).arg hf'
  clear hf hf'
  go_enter Try.func56, Try.ntmps56
  have st2 := trivial
  have st4 := trivial
  have st6 := trivial
  have st8 := trivial
  go_upto_region 8 with (first
    | (clear st2; (with_reducible refine gate_dst (N := 2) rfl ?_); refine bE #[.int .i64 (sg x), .slice A (dn x) c] 31 H ?_; clear H; intro g2 w1 H; obtain ⟨k2_0, z2_0, k2_1, z2_1⟩ := H.b2 (g := g2) m0)
    | (clear st4; (with_reducible refine gate_dst (N := 3) rfl ?_); refine bE #[.int .i64 (sg y), .slice A' (dn y) c'] 31 H ?_; clear H; intro g3 w3 H; clear k2_0 z2_0 k2_1 z2_1; obtain ⟨k3_0, z3_0, k3_1, z3_1⟩ := H.b2 (g := g3) m0; obtain ⟨k2_0, z2_0, k2_1, z2_1⟩ := H.b2 (g := g2) m1; have ne_g3_g2 := H.ne (g := g3) (g' := g2) 0 1 rfl rfl (by decide); have ne_g2_g3 := ne_g3_g2.symm)
    | (clear st6; (with_reducible refine gate_dst (N := 4) rfl ?_); refine bE #[.int .i64 0, .slice none 0 0] 31 H ?_; clear H; intro g4 w5 H; clear k3_0 z3_0 k3_1 z3_1 k2_0 z2_0 k2_1 z2_1; obtain ⟨k4_0, z4_0, k4_1, z4_1⟩ := H.b2 (g := g4) m0; obtain ⟨k3_0, z3_0, k3_1, z3_1⟩ := H.b2 (g := g3) m1; obtain ⟨k2_0, z2_0, k2_1, z2_1⟩ := H.b2 (g := g2) m2; have ne_g4_g3 := H.ne (g := g4) (g' := g3) 0 1 rfl rfl (by decide); have ne_g3_g4 := ne_g4_g3.symm; have ne_g4_g2 := H.ne (g := g4) (g' := g2) 0 2 rfl rfl (by decide); have ne_g2_g4 := ne_g4_g2.symm)
    | (clear st8; go_at_call 89; (with_reducible refine (compareX (H.row _ m1) (H.row _ m0) (Nat.le_trans bx.out (by decide)) (Nat.le_trans by'.out (by decide)) k hk.out).mono ?_); rintro e w7 ⟨rfl, hb⟩; replace H := H.call hb; clear hb; clear k4_0 z4_0 k4_1 z4_1 k3_0 z3_0 k3_1 z3_1 k2_0 z2_0 k2_1 z2_1; obtain ⟨k4_0, z4_0, k4_1, z4_1⟩ := H.b2 (g := g4) m0; obtain ⟨k3_0, z3_0, k3_1, z3_1⟩ := H.b2 (g := g3) m1; obtain ⟨k2_0, z2_0, k2_1, z2_1⟩ := H.b2 (g := g2) m2))
  (try simp only [nn])
  clear k4_0 z4_0 k4_1 z4_1 k3_0 z3_0 k3_1 z3_1 k2_0 z2_0 k2_1 z2_1
  replace H := H.drew
  refine start_ (n := 9) (S := fun w' => w'.cell? ⟨g3, 0, none⟩ = some (.int .i64 (sg y)) ∧ w'.cell? ⟨g3, 1, none⟩ = some (.slice A' (dn y) c') ∧ w'.cell? ⟨g2, 0, none⟩ = some (.int .i64 (sg x)) ∧ w'.cell? ⟨g2, 1, none⟩ = some (.slice A (dn x) c)) (ds := [8]) #[false, false, false, false, false, false, false, false, false] (by kernel_rfl) rfl rfl (H.c2 m1 (H.d2 m2)) (fun hQ => ?_)
  generalize w7.drew = w9 at H hQ ⊢
  refine with_tabW tb56.tab8 tb56.bits8 (fun HT_ HW_ => ?_)
  refine pT HT_ 0 32 (bm 9 1) ?_
  refine pT HT_ 2 34 (bm 9 5) ?_
  refine pT HT_ 4 36 (bm 9 21) ?_
  refine tT HT_ HW_ hQ 1 33 (bm 9 23) ?_
  refine tT HT_ HW_ hQ 3 35 (bm 9 31) ?_
  refine tT HT_ HW_ hQ 5 37 (bm 9 63) ?_
  refine oT HT_ 6 38 (bm 9 127) (fun K hK => ?_)
  refine gT Try.func90 #[.slice A' (dn y) c', .slice A (dn x) c] ?_
  with_reducible refine (hA.out _ _ _ _ (dn y) (dn x) _ _ rfl rfl (H.row _ m0) (H.row _ m1)).mono ?_
  rintro e w10 ⟨A11, c12, rfl, hr, hb⟩
  replace H := H.got (fresh_row hr) hb
  clear hr hb
  refine ⟨_, rfl, ?_⟩
  refine hK.out _ _ (H.c2 m1 (H.d2 m2)) (fun hQ => ?_)
  clear hK K
  refine nT ?_
  refine oT HT_ 7 39 (bm 9 255) (fun K hK => ?_)
  refine gT Try.func75 #[.int .i64 (sg y), .slice A11 L.length c12] ?_
  with_reducible refine (numberN (sg y) rfl hL.out hO.out (H.row _ m0) r h1.out h2.out).mono ?_
  rintro e w13 ⟨A14, c15, rfl, hr, hb⟩
  replace H := H.got hr hb
  clear hr hb
  refine ⟨_, rfl, ?_⟩
  refine hK.out _ _ (H.c2 m1 (H.d2 m2)) (fun hQ => ?_)
  clear hK K
  refine nT ?_
  refine lT HT_ 8 (bm 9 511) (fun K hK => ?_)
  obtain ⟨k4_0, z4_0, k4_1, z4_1⟩ := H.b2 (g := g4) m0
  obtain ⟨k3_0, z3_0, k3_1, z3_1⟩ := H.b2 (g := g3) m1
  obtain ⟨k2_0, z2_0, k2_1, z2_1⟩ := H.b2 (g := g2) m2
  refine kT ?_
  refine hK.out _ _ ?_
  clear hK K
  refine done_ (done_of HT_.out (by kernel_rfl)) ?_
  try clear hQ
  go_wp2
  replace H := ((H.setn [] 0 (.int .i64 (sg r)) rfl).setn [] 1 (.slice A14 (dn r) c15) rfl)
  refine bodyPost_ret (results_cell_row rfl _ _ g4 31 #[.int .i64 (sg r), .slice A14 (dn r) c15] (0, 0) _ rfl (H.blk m0) Try.underlying31 rfl (by kernel_rfl)) rfl ?_
  exact ⟨A14, c15, rfl, H.ret m0, H.below⟩

def tb56.T9 : Bool × List (List Nat × List Nat) := (true, [([], []), ([0], [0]), ([], []), ([2], [2]), ([], []), ([4], [4]), ([3, 5], [3, 5]), ([1, 6, 6], [1, 6]), ([7, 7, 0, 1, 2, 3, 4, 5, 6, 7], [7])])
def tb56.B9 : List Nat := [0, 1, 0, 4, 0, 16, 60, 127, 255]
theorem tb56.tab9 : rtab .any (opsOf Try.f56 9) = tb56.T9 := by kernel_rfl
theorem tb56.bits9 : waitsOk tb56.T9.2 tb56.B9 = true := by kernel_rfl

theorem AddN_4 {A A' : Option Addr} {c c' : Nat} {x y : Int} {w : World} {ok : Nat → Prop} (hf : (nw A c x).at w ok) (hf' : (nw A' c' y).at w ok) (bx : Aside0 (dn x ≤ 100000)) (by' : Aside0 (dn y ≤ 100000)) (t1 : (sg x == 0) = false) (t2 : (sg y == 0) = false) (t3 : (sg x == sg y) = false) (k : Int) (hk : Aside0 (cmp3 (x.natAbs : Int) (y.natAbs : Int) = k)) (t4 : decide (k < 0) = false) (L : List Int) (hL : Aside0 (L.length ≤ 1000000)) (hO : Aside0 (Okd 10 L)) (r : Int) (hA : Aside0 (∀ (A A' : Option Addr) (c c' n n' : Nat) (w : World) (ok : Nat → Prop), (dl x).length = n → (dl y).length = n' → (⟨.i64, A, c, dl x⟩ : Rw).at w ok → (⟨.i64, A', c', dl y⟩ : Rw).at w ok → Calls Try.prog 90 #[.slice A n c, .slice A' n' c'] w (RetF w L))) (h1 : Aside0 ((if vl 10 L = 0 then 0 else sg x) = sg r)) (h2 : Aside0 ((r.natAbs : Int) = vl 10 L)) : Calls Try.prog 56 #[.agg #[.int .i64 (sg x), .slice A (dn x) c], .agg #[.int .i64 (sg y), .slice A' (dn y) c']] w (RetNm w ok r) := by
  have hu31 := Try.underlying31
  have H := ((Sit.start w ok).arg hf).arg hf'
  clear hf hf'
  go_enter Try.func56, Try.ntmps56
  have st2 := trivial
  have st4 := trivial
  have st6 := trivial
  have st8 := trivial
  go_upto_region 9 with (first
    | (clear st2; (with_reducible refine gate_dst (N := 2) rfl ?_); refine bE #[.int .i64 (sg x), .slice A (dn x) c] 31 H ?_; clear H; intro g2 w1 H; obtain ⟨k2_0, z2_0, k2_1, z2_1⟩ := H.b2 (g := g2) m0)
    | (clear st4; (with_reducible refine gate_dst (N := 3) rfl ?_); refine bE #[.int .i64 (sg y), .slice A' (dn y) c'] 31 H ?_; clear H; intro g3 w3 H; clear k2_0 z2_0 k2_1 z2_1; obtain ⟨k3_0, z3_0, k3_1, z3_1⟩ := H.b2 (g := g3) m0; obtain ⟨k2_0, z2_0, k2_1, z2_1⟩ := H.b2 (g := g2) m1; have ne_g3_g2 := H.ne (g := g3) (g' := g2) 0 1 rfl rfl (by decide); have ne_g2_g3 := ne_g3_g2.symm)
    | (clear st6; (with_reducible refine gate_dst (N := 4) rfl ?_); refine bE #[.int .i64 0, .slice none 0 0] 31 H ?_; clear H; intro g4 w5 H; clear k3_0 z3_0 k3_1 z3_1 k2_0 z2_0 k2_1 z2_1; obtain ⟨k4_0, z4_0, k4_1, z4_1⟩ := H.b2 (g := g4) m0; obtain ⟨k3_0, z3_0, k3_1, z3_1⟩ := H.b2 (g := g3) m1; obtain ⟨k2_0, z2_0, k2_1, z2_1⟩ := H.b2 (g := g2) m2; have ne_g4_g3 := H.ne (g := g4) (g' := g3) 0 1 rfl rfl (by decide); have ne_g3_g4 := ne_g4_g3.symm; have ne_g4_g2 := H.ne (g := g4) (g' := g2) 0 2 rfl rfl (by decide); have ne_g2_g4 := ne_g4_g2.symm)
    | (clear st8; go_at_call 89; (with_reducible refine (compareX (H.row _ m1) (H.row _ m0) (Nat.le_trans bx.out (by decide)) (Nat.le_trans by'.out (by decide)) k hk.out).mono ?_); rintro e w7 ⟨rfl, hb⟩; replace H := H.call hb; clear hb; clear k4_0 z4_0 k4_1 z4_1 k3_0 z3_0 k3_1 z3_1 k2_0 z2_0 k2_1 z2_1; obtain ⟨k4_0, z4_0, k4_1, z4_1⟩ := H.b2 (g := g4) m0; obtain ⟨k3_0, z3_0, k3_1, z3_1⟩ := H.b2 (g := g3) m1; obtain ⟨k2_0, z2_0, k2_1, z2_1⟩ := H.b2 (g := g2) m2))
  (try simp only [nn])
  clear k4_0 z4_0 k4_1 z4_1 k3_0 z3_0 k3_1 z3_1 k2_0 z2_0 k2_1 z2_1
  replace H := H.drew
  refine start_ (n := 9) (S := fun w' => w'.cell? ⟨g2, 0, none⟩ = some (.int .i64 (sg x)) ∧ w'.cell? ⟨g2, 1, none⟩ = some (.slice A (dn x) c) ∧ w'.cell? ⟨g3, 0, none⟩ = some (.int .i64 (sg y)) ∧ w'.cell? ⟨g3, 1, none⟩ = some (.slice A' (dn y) c')) (ds := [8]) #[false, false, false, false, false, false, false, false, false] (by kernel_rfl) rfl rfl (H.c2 m2 (H.d2 m1)) (fun hQ => ?_)
  generalize w7.drew = w9 at H hQ ⊢
  refine with_tabW tb56.tab9 tb56.bits9 (fun HT_ HW_ => ?_)
  refine pT HT_ 0 40 (bm 9 1) ?_
  refine pT HT_ 2 42 (bm 9 5) ?_
  refine pT HT_ 4 44 (bm 9 21) ?_
  refine tT HT_ HW_ hQ 1 41 (bm 9 23) ?_
  refine tT HT_ HW_ hQ 3 43 (bm 9 31) ?_
  refine tT HT_ HW_ hQ 5 45 (bm 9 63) ?_
  refine oT HT_ 6 46 (bm 9 127) (fun K hK => ?_)
  refine gT Try.func90 #[.slice A (dn x) c, .slice A' (dn y) c'] ?_
  with_reducible refine (hA.out _ _ _ _ (dn x) (dn y) _ _ rfl rfl (H.row _ m1) (H.row _ m0)).mono ?_
  rintro e w10 ⟨A11, c12, rfl, hr, hb⟩
  replace H := H.got (fresh_row hr) hb
  clear hr hb
  refine ⟨_, rfl, ?_⟩
  refine hK.out _ _ (H.c2 m2 (H.d2 m1)) (fun hQ => ?_)
  clear hK K
  refine nT ?_
  refine oT HT_ 7 47 (bm 9 255) (fun K hK => ?_)
  refine gT Try.func75 #[.int .i64 (sg x), .slice A11 L.length c12] ?_
  with_reducible refine (numberN (sg x) rfl hL.out hO.out (H.row _ m0) r h1.out h2.out).mono ?_
  rintro e w13 ⟨A14, c15, rfl, hr, hb⟩
  replace H := H.got hr hb
  clear hr hb
  refine ⟨_, rfl, ?_⟩
  refine hK.out _ _ (H.c2 m2 (H.d2 m1)) (fun hQ => ?_)
  clear hK K
  refine nT ?_
  refine lT HT_ 8 (bm 9 511) (fun K hK => ?_)
  obtain ⟨k4_0, z4_0, k4_1, z4_1⟩ := H.b2 (g := g4) m0
  obtain ⟨k3_0, z3_0, k3_1, z3_1⟩ := H.b2 (g := g3) m1
  obtain ⟨k2_0, z2_0, k2_1, z2_1⟩ := H.b2 (g := g2) m2
  refine kT ?_
  refine hK.out _ _ ?_
  clear hK K
  refine done_ (done_of HT_.out (by kernel_rfl)) ?_
  try clear hQ
  go_wp2
  replace H := ((H.setn [] 0 (.int .i64 (sg r)) rfl).setn [] 1 (.slice A14 (dn r) c15) rfl)
  refine bodyPost_ret (results_cell_row rfl _ _ g4 31 #[.int .i64 (sg r), .slice A14 (dn r) c15] (0, 0) _ rfl (H.blk m0) Try.underlying31 rfl (by kernel_rfl)) rfl ?_
  exact ⟨A14, c15, rfl, H.ret m0, H.below⟩

theorem sg_0 {x : Int} (h : sg x = 0) : x = 0 := by
  unfold sg at h
  split at h
  · omega
  · split at h
    · assumption
    · omega
theorem AddN {A A' : Option Addr} {c c' : Nat} {x y : Int} {w : World} {ok : Nat → Prop} (hf : (nw A c x).at w ok) (hf' : (nw A' c' y).at w ok) (hm : dn x ≤ 100000) (hn : dn y ≤ 100000) (r : Int) (hr : x + y = r) : Calls Try.prog 56 #[.agg #[.int .i64 (sg x), .slice A (dn x) c], .agg #[.int .i64 (sg y), .slice A' (dn y) c']] w (RetNm w ok r) := by
  have lx : (dl x).length ≤ 100000 := hm
  have ly : (dl y).length ≤ 100000 := hn
  by_cases hx : x = 0
  · obtain rfl : y = r := by omega
    exact AddN_0 hf hf' ⟨hx⟩ (by rw [hx]; rfl)
  · have t1 : (sg x == 0) = false := beq_eq_false_iff_ne.mpr (fun h => hx (sg_0 h))
    by_cases hy : y = 0
    · obtain rfl : x = r := by omega
      exact AddN_1 hf hf' t1 (by rw [hy]; rfl)
    · have t2 : (sg y == 0) = false := beq_eq_false_iff_ne.mpr (fun h => hy (sg_0 h))
      by_cases hs : sg x = sg y
      · obtain ⟨L, h1, h2, h3, h4⟩ := addN (dl_okd x) (dl_okd y) (by omega) (by omega)
        rw [dl_vl, dl_vl] at h2
        obtain ⟨e1, e2⟩ := add_sgn hr hs hx
        rw [← h2] at e1 e2
        exact AddN_2 hf hf' t1 t2 (beq_iff_eq.mpr hs) L ⟨by omega⟩ ⟨h1⟩ r ⟨h4⟩ ⟨e1⟩ ⟨e2⟩
      · have t3 : (sg x == sg y) = false := beq_eq_false_iff_ne.mpr hs
        by_cases hc : x.natAbs < y.natAbs
        · obtain ⟨L, h1, h2, h3, h4⟩ := subN (dl_okd y) (dl_okd x) (by omega) (by rw [dl_vl, dl_vl]; omega)
          rw [dl_vl, dl_vl] at h2
          obtain ⟨e1, e2⟩ := sub_sgn (x := y) (y := x) (r := r) (by omega) (fun h => hs h.symm) hy hx (by omega)
          rw [← h2] at e1 e2
          exact AddN_3 hf hf' ⟨hm⟩ ⟨hn⟩ t1 t2 t3 (-1) ⟨by unfold cmp3; rw [if_pos (by omega)]⟩ (by decide) L ⟨by omega⟩ ⟨h1⟩ r ⟨h4⟩ ⟨e1⟩ ⟨e2⟩
        · obtain ⟨L, h1, h2, h3, h4⟩ := subN (dl_okd x) (dl_okd y) (by omega) (by rw [dl_vl, dl_vl]; omega)
          rw [dl_vl, dl_vl] at h2
          obtain ⟨e1, e2⟩ := sub_sgn (x := x) (y := y) (r := r) hr hs hx hy (by omega)
          rw [← h2] at e1 e2
          exact AddN_4 hf hf' ⟨hm⟩ ⟨hn⟩ t1 t2 t3 _ ⟨rfl⟩ (decide_eq_false (by unfold cmp3; rw [if_neg (by omega)]; split <;> omega)) L ⟨by omega⟩ ⟨h1⟩ r ⟨h4⟩ ⟨e1⟩ ⟨e2⟩

theorem field31 (s : Int) (A : Option Addr) (n c : Nat) (w : World) : (Instr.field 31 (.agg #[.int .i64 s, .slice A n c]) 0).run Try.prog w = .ok (.int .i64 s) w := by kernel_rfl

theorem CmpN_ {A A' : Option Addr} {c c' : Nat} {x y : Int} {w : World} {ok : Nat → Prop} (hf : (nw A c x).at w ok) (hf' : (nw A' c' y).at w ok) (bx : Aside0 (dn x ≤ 100000)) (m d : Int) (bmm : Aside0 (dn m ≤ 100000)) (hm : Aside0 (-y = m)) (hd : Aside0 (x + m = d)) : Calls Try.prog 59 #[.agg #[.int .i64 (sg x), .slice A (dn x) c], .agg #[.int .i64 (sg y), .slice A' (dn y) c']] w (RetI64 (sg d) w) := by
  have hu31 := Try.underlying31
  have H := ((Sit.start w ok).arg hf).arg hf'
  clear hf hf'
  have hfd := field31
  go_enter Try.func59, Try.ntmps59
  have st2 := trivial
  have st4 := trivial
  go_upto_region 1 with (first
    | (clear st2; (with_reducible refine gate_dst (N := 2) rfl ?_); refine bE #[.int .i64 (sg x), .slice A (dn x) c] 31 H ?_; clear H; intro g2 w1 H; obtain ⟨k2_0, z2_0, k2_1, z2_1⟩ := H.b2 (g := g2) m0)
    | (clear st4; (with_reducible refine gate_dst (N := 3) rfl ?_); refine bE #[.int .i64 (sg y), .slice A' (dn y) c'] 31 H ?_; clear H; intro g3 w3 H; clear k2_0 z2_0 k2_1 z2_1; obtain ⟨k3_0, z3_0, k3_1, z3_1⟩ := H.b2 (g := g3) m0; obtain ⟨k2_0, z2_0, k2_1, z2_1⟩ := H.b2 (g := g2) m1; have ne_g3_g2 := H.ne (g := g3) (g' := g2) 0 1 rfl rfl (by decide); have ne_g2_g3 := ne_g3_g2.symm))
  (try simp only [nn])
  clear k3_0 z3_0 k3_1 z3_1 k2_0 z2_0 k2_1 z2_1
  replace H := H.drew
  refine start_ (n := 6) (S := fun w' => w'.cell? ⟨g2, 0, none⟩ = some (.int .i64 (sg x)) ∧ w'.cell? ⟨g2, 1, none⟩ = some (.slice A (dn x) c) ∧ w'.cell? ⟨g3, 0, none⟩ = some (.int .i64 (sg y)) ∧ w'.cell? ⟨g3, 1, none⟩ = some (.slice A' (dn y) c')) (ds := []) #[false, false, false, false, false, false] (by kernel_rfl) rfl rfl (H.c2 m1 (H.d2 m0)) (fun hQ => ?_)
  generalize w3.drew = w5 at H hQ ⊢
  refine tU hQ 0 5 (bm 6 1) ?_
  refine tU hQ 1 6 (bm 6 3) ?_
  refine oU 2 7 (bm 6 7) (fun K hK => ?_)
  refine gT Try.func57 #[.agg #[.int .i64 (sg y), .slice A' (dn y) c']] ?_
  with_reducible refine (NegN (H.row _ m0) m hm.out).mono ?_
  rintro e w6 ⟨A7, c8, rfl, hr, hb⟩
  replace H := H.got hr hb
  clear hr hb
  refine ⟨_, rfl, ?_⟩
  refine hK.out _ _ (H.c2 m1 (H.d2 m0)) (fun hQ => ?_)
  clear hK K
  refine nT ?_
  refine oU 3 8 (bm 6 15) (fun K hK => ?_)
  refine gT Try.func56 #[.agg #[.int .i64 (sg x), .slice A (dn x) c], .agg #[.int .i64 (sg m), .slice A7 (dn m) c8]] ?_
  with_reducible refine (AddN (H.row _ m2) (H.row _ m0) (Nat.le_trans bx.out (by decide)) (Nat.le_trans bmm.out (by decide)) d hd.out).mono ?_
  rintro e w9 ⟨A10, c11, rfl, hr, hb⟩
  replace H := H.got hr hb
  clear hr hb
  refine ⟨_, rfl, ?_⟩
  refine hK.out _ _ (H.c2 m1 (H.d2 m0)) (fun hQ => ?_)
  clear hK K
  refine nT ?_
  refine pU 4 9 (bm 6 31) ?_
  refine pU 5 4 (bm 6 63) ?_
  refine done_ (by kernel_rfl) ?_
  try clear hQ
  go_wp2
  go_ret
  exact ⟨rfl, H.below⟩

theorem CmpN {A A' : Option Addr} {c c' : Nat} {x y : Int} {w : World} {ok : Nat → Prop} (hf : (nw A c x).at w ok) (hf' : (nw A' c' y).at w ok) (hm : dn x ≤ 100000) (hn : dn y ≤ 100000) (r : Int) (hr : cmp3 x y = r) : Calls Try.prog 59 #[.agg #[.int .i64 (sg x), .slice A (dn x) c], .agg #[.int .i64 (sg y), .slice A' (dn y) c']] w (RetI64 r w) := by
  have e : sg (x + -y) = r := by
    rw [← hr]
    unfold cmp3 sg
    repeat' split <;> omega
  rw [← e]
  exact CmpN_ hf hf' ⟨hm⟩ (-y) _ ⟨by rw [dn_neg]; exact hn⟩ ⟨rfl⟩ ⟨rfl⟩

end Go.Proofs.Ytdkapdgbfejgdaa

/- ontimeref01.Div: the quotient and the remainder; ontimeref02.one. -/
namespace Go.Proofs.Ytdkapdgbfejgdaa
open Go.RowKit Go.Proofs.YtdkapdgbfejgdaaW.PrintWords Go.Proofs.YtdkapdgbfejgdaaW.PrintLast Go.Proofs.YtdkapdgbfejgdaaW.PrintMore
set_option linter.unusedSimpArgs false
set_option linter.unusedVariables false
set_option maxHeartbeats 8000000
set_option maxRecDepth 100000

/-- The newest box has been taken up by an append; what came of it is a row. -/
theorem Sit.grown1 {w0 W w1 : World} {ok : Nat → Prop} {bs : List (Nat × Obj)} {fs : List Rw} {f : Rw} {g : Nat} {ob : Obj} (h : Sit w0 W ok ((g, ob) :: bs) fs) (hg : W.grownBy w1 (some g)) (hf : f.at w1 (fun j => j = g ∨ W.heap.size ≤ j)) : Sit w0 w1 ok bs (f :: fs) := by
  have hnd := h.nd
  rw [List.map_cons, List.nodup_cons] at hnd
  have hg0 := (h.box _ (.head _)).2
  have hne : ∀ b ∈ bs, b.1 ≠ g := by
    intro b hm e
    have hm2 : b.1 ∈ bs.map (·.1) := List.mem_map_of_mem hm
    rw [e] at hm2
    exact hnd.1 hm2
  refine ⟨Below.grown h.below hg (below_size h.below) (fun k hk => by injection hk with hk; rw [← hk]; exact hg0), hnd.2, ?_, ?_⟩
  · intro b hm
    have hb := h.box b (.tail _ hm)
    exact ⟨(hg.block b.1 (blk_lt hb.1) (fun e => hne b hm (by injection e))).trans hb.1, hb.2⟩
  · intro x hx
    rcases List.mem_cons.mp hx with rfl | hx
    · refine hf.mono ?_
      rintro k (rfl | hk)
      · exact ⟨fun b hm e => hne b hm e.symm, .inr hg0⟩
      · refine ⟨?_, .inr (Nat.le_trans (below_size h.below) hk)⟩
        intro b hm e
        have := blk_lt (h.box b (.tail _ hm)).1
        omega
    · have hr := h.row x hx
      refine Rw.at.mono (ok := Gd w0 ok ((g, ob) :: bs)) ⟨hr.1, Kd.F_step hr.2 (fun k hk hlt => hg.block k hlt (fun e => hk.1 _ (.head _) (by injection e)))⟩ (fun k hk => ⟨fun b hm => hk.1 b (.tail _ hm), hk.2⟩)
theorem own_row {w : World} {e n base : Nat} {k : IntKind} {v : Value} {l : List Int} (h : w.ownsRow base e 1 v n (l.map (Value.int k))) (hn : 0 < n) (hl : n ≤ 9223372036854775807) : ∃ g cap, v = .slice (some ⟨g, 0, none⟩) n cap ∧ (⟨k, some ⟨g, 0, none⟩, cap, l⟩ : Rw).at w (fun j => j = g) := by
  have e1 : l.length = n := by have := h.1; simpa using this
  rcases h.2 with ⟨-, h0⟩ | ⟨g, cap, cur, rfl, -, hg, hnc, -, hcs, ht⟩
  · omega
  · subst e1
    refine ⟨g, cap, rfl, hnc, fun W' hW => Kd.C_of_reads (d := (0 : Int)) ⟨rfl, hl, fun _ => ⟨⟨g, 0, none⟩, rfl, fun j hj => ?_⟩⟩⟩
    have hj : j < l.length := hj
    have h1 := blk_cell ((hW g rfl (blk_lt hg)).trans hg) j
    have h2 : (⟨g, 0, none⟩ : Addr).add j = ⟨g, j, none⟩ := by
      unfold Addr.add
      by_cases h0 : j = 0 <;> simp [h0]
    have h3 : cur[j]? = some (Value.int k l[j]) := by
      have h4 : (cur.toList.take (l.length * 1))[j]? = (l.map (Value.int k))[j]? := by rw [ht]
      rw [List.getElem?_take, if_pos (by omega), Array.getElem?_toList, List.getElem?_map, List.getElem?_eq_getElem hj] at h4
      exact h4
    rw [h2, h1, h3]
    simp [List.getD, List.getElem?_eq_getElem hj]
/-- append([]T{d}, l...): the literal's block is the newest box. -/
theorem append_event {P : Program} {ops : Array Oper} {Q : Exit → Act → World → Prop} {rest : List Oper} {o : Oper} {a : Act} {W : World} (hgd : o.guard = none) {N : Tmp} (hd : o.dst = some N) (s x : Operand) (t e : TypeId) (bytes : Nat)
    (ho : o.op = .call { callee := .builtin .append, args := #[s, x], argTypes := #[t, t] }) (ht : P.underlying t = some (.slice e)) {k : IntKind} (hinfo : (P.info? e).map (fun i => (i.zero, i.size, i.bytes)) = some (some (.int k 0), 1, bytes))
    {g : Nat} {d : Int} {A : Option Addr} {m c : Nat} {l : List Int} {ok : Nat → Prop} (hs : a.eval s = .slice (some ⟨g, 0, none⟩) 1 1) (hx : a.eval x = .slice A m c) (hg : W.heap[g]? = some (.cells #[.int k d] e (0, 0))) (hl : l.length = m) (hr : (⟨k, A, c, l⟩ : Rw).at W ok) (hb : (1 + m) * bytes ≤ 140737488355328) (hb0 : 0 < bytes)
    (h : ∀ A' c' w1, (⟨k, A', c', d :: l⟩ : Rw).at w1 (fun j => j = g ∨ W.heap.size ≤ j) → W.grownBy w1 (some g) → wpList P ops Q rest (a.put (some N) (.slice A' (1 + m) c')) w1) : wpList P ops Q (o :: rest) a W := by
  obtain ⟨i0, hi, hzz⟩ := Option.map_eq_some_iff.1 hinfo
  simp only [Prod.mk.injEq] at hzz
  obtain ⟨hz0, hz1, hz2⟩ := hzz
  have hm0 : 1 + m ≤ 140737488355328 := Nat.le_trans (Nat.le_mul_of_pos_right _ hb0) hb
  have hown : W.ownsRow 0 e 1 (.slice (some ⟨g, 0, none⟩) 1 1) 1 [Value.int k d] := ⟨rfl, .inr ⟨g, 1, _, rfl, Nat.zero_le _, hg, Nat.le_refl _, by simp only [maxLen]; omega, rfl, rfl⟩⟩
  have fin : ∀ {v' : Value} {w' : World}, (Builtin.append_ #[t, t] o.type #[.slice (some ⟨g, 0, none⟩) 1 1, .slice A m c]).run P W = .ok v' w' → w'.ownsRow 0 e 1 v' (1 + m) ((d :: l).map (Value.int k)) → W.grownBy w' (some g) → (v'.ownBlock = some g ∨ v'.ownBlock = some W.heap.size) → wpList P ops Q (o :: rest) a W := by
    intro v' w' hrun hown' hgr hat
    obtain ⟨g', cap, rfl, hrow⟩ := own_row hown' (by omega) (by omega)
    have hP : wpList P ops Q rest (a.put (some N) (.slice (some ⟨g', 0, none⟩) (1 + m) cap)) w' := by
      refine h _ _ _ (hrow.mono ?_) hgr
      intro j hj
      have hj : j = g' := hj
      rcases hat with hat | hat
      · have hat : some g' = some g := hat
        exact .inl (by injection hat with hat; omega)
      · have hat : some g' = some W.heap.size := hat
        exact .inr (by injection hat with hat; omega)
    refine wpList_plain hgd fun K hK => ?_
    unfold Oper.wp execOp
    simp only [ho, resolve, invoke, builtin, Sem.run_bind, Sem.run_pure, Result.andThen_ok, List.map_toArray, List.map_cons, List.map_nil, hs, hx, hrun]
    rw [← hd] at hP
    exact hK _ _ hP
  have hC := Kd.F_now hr.2
  rcases A with _ | ad
  · have h0 : m = 0 := by
      rcases Nat.eq_zero_or_pos m with h0 | h0
      · exact h0
      · obtain ⟨ad, h, _⟩ := Kd.at_int hC 0 (by omega) (by show (0 : Int) < ((l.length : Nat) : Int); omega)
        cases h
    subst h0
    obtain rfl : l = [] := List.eq_nil_of_length_eq_zero hl
    refine fin (v' := .slice (some ⟨g, 0, none⟩) 1 1) (w' := W) ?_ hown (World.grownBy.refl W _) (.inl rfl)
    simp [Builtin.append_, run_underlying ht, sizeOf, typeInfo, hi, Builtin.lenOf, Builtin.firstCells, storeCells]
  · have hnews : ∀ (j : Nat) u, (l.map (Value.int k))[j]? = some u → W.cell? (ad.add j) = some u := by
      intro j u hu
      obtain ⟨hj, rfl⟩ := List.getElem?_eq_some_iff.mp hu
      have hj' : j < l.length := by simpa using hj
      obtain ⟨ad', e1, e2⟩ := Kd.at_int hC (j : Int) (by omega) (by show (j : Int) < ((l.length : Nat) : Int); omega)
      injection e1 with e1
      subst e1
      have e3 : W.cell? (ad.add j) = some (.int k (l.getD j 0)) := e2
      rw [e3]
      simp [List.getD, hj']
    obtain ⟨v', w', hrun, hown', hgr, -, hat⟩ := run_append_own_at (P := P) W 0 t o.type e i0 (.int k 0) 1 bytes ht hi hz0 hz1 hz2 rfl (by omega) _ 1 _ hown ad m c (l.map (Value.int k)) (by simp [hl]) hnews (by intro u hu; obtain ⟨y, -, rfl⟩ := List.mem_map.mp hu; rfl) (by simp only [maxLen]; omega) hb (Nat.zero_le _)
    exact fin hrun hown' hgr hat
theorem nw_nil (w : World) (ok : Nat → Prop) : (nw none 0 0).at w ok := ⟨Nat.le_refl _, Kd.F_nil _ _ _⟩
theorem trimX {A : Option Addr} {c n : Nat} {a : List Int} {w : World} {ok : Nat → Prop} (e : a.length = n) (hn : n ≤ 1000000) (ha : Okd 10 a) (hf : (⟨.i64, A, c, a⟩ : Rw).at w ok) (r : Int) (hr : vl 10 a = r) : Calls Try.prog 92 #[.slice A n c] w (fun e w' => ∃ A c, e = .returned (.slice A (dn r) c) ∧ (nw A c r).at w' (fun k => ok k ∨ w.heap.size ≤ k) ∧ Below w.heap.size w w') :=
  trimN e hn hf (dl r) (by
    have h0 := vl_nonneg (b := 10) (by omega) ha
    have e : trimR a = dg 10 (vl 10 a).toNat := trimR_dg 10 (by omega) a ha
    rw [e, hr]
    unfold dl
    congr 1
    omega)
/-- What the division of X by Y keeps: the digits from i on are done. -/
def DivOut (X : List Int) (Y : Int) (q : List Int) (r : Int) (i : Nat) : Prop :=
  Okd 10 q ∧ q.length + i = X.length ∧ 0 ≤ r ∧ r < Y ∧ vl 10 q * Y + r = vl 10 (X.drop i)
theorem DivOut.start {X : List Int} {Y : Int} (h : 0 < Y) : DivOut X Y [] 0 X.length := ⟨Okd.nil _, by simp, by omega, h, by rw [List.drop_of_length_le (Nat.le_refl _)]; simp [vl]⟩
theorem DivOut.next {X : List Int} {Y : Int} {q : List Int} {r xd r' : Int} {i d : Nat} (h : DivOut X Y q r (i + 1)) (hx : X.getD i 0 = xd) (hd : r' + d * Y = xd + 10 * r) (h0 : 0 ≤ r') (h1 : r' < Y) (h9 : d ≤ 9) : DivOut X Y ((d : Int) :: q) r' i := by
  obtain ⟨a1, a2, a3, a4, a5⟩ := h
  refine ⟨Okd.cons (by omega) (by omega) a1, by simp; omega, h0, h1, ?_⟩
  rw [vl_cons, vl_drop 10 X i, hx, ← a5, Int.add_mul, Int.mul_assoc]
  omega
theorem DivOut.done {x y : Int} {q : List Int} {r : Int} (h : DivOut (dl x) (y.natAbs : Int) q r 0) : vl 10 q = ((x.tdiv y).natAbs : Int) ∧ r = ((x.tmod y).natAbs : Int) := by
  obtain ⟨a1, a2, a3, a4, a5⟩ := h
  rw [List.drop_zero, dl_vl] at a5
  have hq := vl_nonneg (b := 10) (by omega) a1
  rw [Int.natAbs_tdiv, Int.natAbs_tmod]
  obtain ⟨u, hu⟩ := Int.eq_ofNat_of_zero_le hq
  obtain ⟨v, hv⟩ := Int.eq_ofNat_of_zero_le a3
  rw [hu] at a5 ⊢
  rw [hv] at a4 a5 ⊢
  have h1 : u * y.natAbs + v = x.natAbs := by
    have h2 : ((u * y.natAbs + v : Nat) : Int) = (x.natAbs : Int) := by rw [Int.natCast_add, Int.natCast_mul]; exact a5
    omega
  have h3 : v < y.natAbs := by omega
  have h4 : x.natAbs / y.natAbs = u := by
    rw [← h1, Nat.mul_comm, Nat.mul_add_div (by omega), Nat.div_eq_of_lt h3]; rfl
  have h5 : x.natAbs % y.natAbs = v := by
    rw [← h1, Nat.mul_comm, Nat.mul_add_mod, Nat.mod_eq_of_lt h3]
  show (u : Int) = ((x.natAbs / y.natAbs : Nat) : Int) ∧ (v : Int) = ((x.natAbs % y.natAbs : Nat) : Int)
  rw [h4, h5]
  exact ⟨rfl, rfl⟩
theorem tdiv_sg (x y : Int) : (if ((x.tdiv y).natAbs : Int) = 0 then 0 else sg x * sg y) = sg (x.tdiv y) := by
  have e := sg_abs (x.tdiv y) 1 _ rfl
  by_cases h0 : x.tdiv y = 0
  · rw [if_pos (by omega), h0]; rfl
  · rw [if_neg (by omega)]
    have hx : x ≠ 0 := by rintro rfl; exact h0 (Int.zero_tdiv y)
    have hy : y ≠ 0 := by rintro rfl; exact h0 (Int.tdiv_zero x)
    have s1 : ∀ z : Int, 0 < z → sg z = 1 := fun z h => by unfold sg; rw [if_neg (by omega), if_neg (by omega)]
    have s2 : ∀ z : Int, z < 0 → sg z = -1 := fun z h => by unfold sg; rw [if_pos h]
    rcases Int.lt_or_gt_of_ne hx with hx' | hx' <;> rcases Int.lt_or_gt_of_ne hy with hy' | hy'
    · rw [s2 _ hx', s2 _ hy']
      have : 0 ≤ x.tdiv y := by rw [← Int.neg_tdiv_neg]; exact Int.tdiv_nonneg (by omega) (by omega)
      rw [s1 _ (by omega)]; rfl
    · rw [s2 _ hx', s1 _ hy']
      have : 0 ≤ (-x).tdiv y := Int.tdiv_nonneg (by omega) (by omega)
      rw [Int.neg_tdiv] at this
      rw [s2 _ (by omega)]; rfl
    · rw [s1 _ hx', s2 _ hy']
      have : 0 ≤ x.tdiv (-y) := Int.tdiv_nonneg (by omega) (by omega)
      rw [Int.tdiv_neg] at this
      rw [s2 _ (by omega)]; rfl
    · rw [s1 _ hx', s1 _ hy']
      have : 0 ≤ x.tdiv y := Int.tdiv_nonneg (by omega) (by omega)
      rw [s1 _ (by omega)]; rfl
theorem tmod_sg (x y : Int) : (if ((x.tmod y).natAbs : Int) = 0 then 0 else sg x) = sg (x.tmod y) := by
  by_cases h0 : x.tmod y = 0
  · rw [if_pos (by omega), h0]; rfl
  · rw [if_neg (by omega)]
    unfold sg
    by_cases hx : x < 0
    · have : 0 ≤ (-x).tmod y := Int.tmod_nonneg _ (by omega)
      rw [Int.neg_tmod] at this
      rw [if_pos hx, if_pos (by omega)]
    · have : 0 ≤ x.tmod y := Int.tmod_nonneg _ (by omega)
      have hx0 : x ≠ 0 := by rintro rfl; exact h0 (Int.zero_tmod y)
      rw [if_neg hx, if_neg hx0, if_neg (by omega), if_neg (by omega)]
/-- It returns two numbers. -/
def RetNm2 (w : World) (ok : Nat → Prop) (q r : Int) (e : Ending) (w' : World) : Prop :=
  ∃ A c B b, e = .returned (.tuple #[.agg #[.int .i64 (sg q), .slice A (dn q) c], .agg #[.int .i64 (sg r), .slice B (dn r) b]]) ∧ (nw A c q).at w' (fun k => ok k ∨ w.heap.size ≤ k) ∧ (nw B b r).at w' (fun k => ok k ∨ w.heap.size ≤ k) ∧ Below w.heap.size w w'
theorem div9 {rv Y R0 : Int} {d : Nat} (h : rv + d * Y = R0) (hR : R0 < 10 * Y) (h0 : Y ≤ rv) (hY : 0 < Y) : d + 1 ≤ 9 := by
  by_cases hd : d + 1 ≤ 9
  · exact hd
  · exfalso
    have : 9 * Y ≤ (d : Int) * Y := Int.mul_le_mul_of_nonneg_right (by omega) (by omega)
    omega

def tb60.T11 : Bool × List (List Nat × List Nat) := (true, [([], []), ([0], [0]), ([], []), ([2], [2]), ([1, 3], [1, 3]), ([], []), ([4, 5], [4, 5]), ([], []), ([7], [7]), ([], []), ([8, 9, 6], [8, 9]), ([6, 10, 0, 1, 2, 3, 4, 5, 6], [6]), ([10, 11, 0, 1, 2, 3, 4, 5, 6, 7, 8, 9, 10, 11], [10])])
def tb60.B11 : List Nat := [0, 1, 0, 4, 15, 0, 63, 0, 128, 0, 1023, 2047, 4095]
theorem tb60.tab11 : rtab .any (opsOf Try.f60 11) = tb60.T11 := by kernel_rfl
theorem tb60.bits11 : waitsOk tb60.T11.2 tb60.B11 = true := by kernel_rfl

theorem DivN_ {A A' : Option Addr} {c c' : Nat} {x y : Int} {w : World} {ok : Nat → Prop} (hf : (nw A c x).at w ok) (hf' : (nw A' c' y).at w ok) (hm : dn x ≤ 100000) (hn : dn y ≤ 100000) (hy0 : Aside0 (y ≠ 0)) (qq rr : Int) (hqq : Aside0 (x.tdiv y = qq)) (hrr : Aside0 (x.tmod y = rr)) : Calls Try.prog 60 #[.agg #[.int .i64 (sg x), .slice A (dn x) c], .agg #[.int .i64 (sg y), .slice A' (dn y) c']] w (RetNm2 w ok qq rr) := by
  have hu31 := Try.underlying31
  have H := ((Sit.start w ok).arg hf).arg hf'
  clear hf hf'
  obtain ⟨Y, hY⟩ : ∃ Y : Int, (y.natAbs : Int) = Y := ⟨_, rfl⟩
  have hY0 : 0 < Y := by have := hy0.out; omega
  have HY := Aside0.mk hY
  have HY0 := Aside0.mk hY0
  clear hY hY0
  go_enter Try.func60, Try.ntmps60
  go_wp2_with (first
    | ((with_reducible refine gate_dst (N := 2) rfl ?_); refine bE #[.int .i64 (sg x), .slice A (dn x) c] 31 H ?_; clear H; intro g2 w1 H)
    | ((with_reducible refine gate_dst (N := 3) rfl ?_); refine bE #[.int .i64 (sg y), .slice A' (dn y) c'] 31 H ?_; clear H; intro g3 w2 H)
    | ((with_reducible refine gate_dst (N := 4) rfl ?_); refine bE #[.int .i64 0, .slice none 0 0] 31 H ?_; clear H; intro g4 w3 H)
    | ((with_reducible refine gate_dst (N := 5) rfl ?_); refine bE #[.int .i64 0, .slice none 0 0] 31 H ?_; clear H; intro g5 w4 H; have kx_0 : w4.cell? ⟨g2, 0, none⟩ = some (.int .i64 (sg x)) := H.cell m3 0; have kx_1 : w4.cell? ⟨g2, 1, none⟩ = some (.slice A (dn x) c) := H.cell m3 1; have kxz_0 := H.frozen (g := g2) m3 0; have kxz_1 := H.frozen (g := g2) m3 1; have ky_0 : w4.cell? ⟨g3, 0, none⟩ = some (.int .i64 (sg y)) := H.cell m2 0; have ky_1 : w4.cell? ⟨g3, 1, none⟩ = some (.slice A' (dn y) c') := H.cell m2 1; have kyz_0 := H.frozen (g := g3) m2 0; have kyz_1 := H.frozen (g := g3) m2 1))
  replace H : Sit w _ ok [(g5, .cells #[.int .i64 0, .slice none 0 0] 31 (0, 0)), (g4, .cells #[.int .i64 0, .slice none 0 0] 31 (0, 0)), (g3, .cells #[.int .i64 (sg y), .slice A' (dn y) c'] 31 (0, 0)), (g2, .cells #[.int .i64 (sg x), .slice A (dn x) c] 31 (0, 0))] [nw none 0 0, ⟨.i64, none, 0, []⟩, nw A' c' y, nw A c x] := (H.more ⟨Nat.le_refl _, Kd.F_nil _ _ _⟩).more (nw_nil _ _)
  have hI := Aside0.mk (DivOut.start (X := dl x) HY0.out)
  go_loopw [6, 7, 8] (fun vq vr vi wr => ∃ (iv : Int) (i nq : Nat) (q : List Int) (AQ : Option Addr) (cQ : Nat) (rv : Int) (AR : Option Addr) (cR : Nat), vi = .int .i64 iv ∧ vq = .slice AQ nq cQ ∧ vr = .slice AR (dn rv) cR ∧ iv = (i : Int) - 1 ∧ q.length = nq ∧ Aside0 (DivOut (dl x) Y q rv i) ∧ Sit w wr ok [(g5, .cells #[.int .i64 0, .slice none 0 0] 31 (0, 0)), (g4, .cells #[.int .i64 0, .slice none 0 0] 31 (0, 0)), (g3, .cells #[.int .i64 (sg y), .slice A' (dn y) c'] 31 (0, 0)), (g2, .cells #[.int .i64 (sg x), .slice A (dn x) c] 31 (0, 0))] [nw AR cR rv, ⟨.i64, AQ, cQ, q⟩, nw A' c' y, nw A c x]) (fun _ _ vi _ => (intOf vi + 1).toNat)
  case atStart => exact ⟨_, dn x, 0, [], none, 0, 0, none, 0, by go_num, rfl, rfl, rfl, rfl, hI, H⟩
  case round =>
    clear H hI kx_0 kx_1 kxz_0 kxz_1 ky_0 ky_1 kyz_0 kyz_1
    obtain ⟨iv, i, nq, q, AQ, cQ, rv, AR, cR, rfl, rfl, rfl, hiv, hql, hD, H⟩ := hrel
    obtain ⟨wo, rfl⟩ : ∃ wo : World, wo = wr := ⟨_, rfl⟩
    have kx_0 : wo.cell? ⟨g2, 0, none⟩ = some (.int .i64 (sg x)) := H.cell m3 0; have kx_1 : wo.cell? ⟨g2, 1, none⟩ = some (.slice A (dn x) c) := H.cell m3 1; have kxz_0 := H.frozen (g := g2) m3 0; have kxz_1 := H.frozen (g := g2) m3 1; have ky_0 : wo.cell? ⟨g3, 0, none⟩ = some (.int .i64 (sg y)) := H.cell m2 0; have ky_1 : wo.cell? ⟨g3, 1, none⟩ = some (.slice A' (dn y) c') := H.cell m2 1; have kyz_0 := H.frozen (g := g3) m2 0; have kyz_1 := H.frozen (g := g3) m2 1
    have hbn : q.length + i = dn x ∧ dn rv ≤ dn y := by
      obtain ⟨a1, a2, a3, a4, a5⟩ := hD.out
      exact ⟨a2, dLe (Nat.le_refl _) (by have := HY.out; omega)⟩
    obtain ⟨hb1, hb2⟩ := hbn
    rcases Nat.eq_zero_or_pos i with h0 | h0
    · subst h0
      obtain rfl : iv = -1 := by omega
      clear hiv
      obtain ⟨e1, e2⟩ := DivOut.done (x := x) (y := y) (q := q) (r := rv) (by have := hD.out; rw [← HY.out] at this; exact this)
      have HQL := Aside0.mk hql
      have HQN := Aside0.mk (show nq ≤ 100000 by omega)
      have HRN := Aside0.mk (show dn rv ≤ 100000 by omega)
      have HQO := Aside0.mk hD.out.1
      have V1 := Aside0.mk (show (if vl 10 q = 0 then 0 else sg x * sg y) = sg qq by rw [e1, ← hqq.out]; exact tdiv_sg x y)
      have V2 := Aside0.mk (show (qq.natAbs : Int) = vl 10 q by rw [e1, ← hqq.out])
      have e3 : vl 10 (dl rv) = rv := by rw [dl_vl]; have := hD.out.2.2.1; omega
      have V3 := Aside0.mk (show (if vl 10 (dl rv) = 0 then 0 else sg x) = sg rr by rw [e3, e2, ← hrr.out]; exact tmod_sg x y)
      have V4 := Aside0.mk (show (rr.natAbs : Int) = vl 10 (dl rv) by rw [e3, e2, ← hrr.out])
      obtain ⟨sp, hsp⟩ : ∃ sp, sg x * sg y = sp := ⟨_, rfl⟩
      have xs : wrap64 (sg x * sg y) = sp := by rw [w64 (by have := sg_rng x y; omega) (by have := sg_rng x y; omega)]; exact hsp
      replace V1 := Aside0.mk (show (if vl 10 q = 0 then 0 else wrap64 (sg x * sg y)) = sg qq by rw [xs, ← hsp]; exact V1.out)
      have ne_45 := H.ne (g := g4) (g' := g5) 1 0 rfl rfl (by decide)
      have ne_54 := ne_45.symm
      clear e1 e2 e3 hD hql hb1 hb2 hsp xs
      go_upto_region 11 with fail
      (try simp only [nn])
      clear kx_0 kx_1 kxz_0 kxz_1 ky_0 ky_1 kyz_0 kyz_1
      replace H := H.drew
      refine start_ (n := 13) (S := fun w' => w'.cell? ⟨g2, 0, none⟩ = some (.int .i64 (sg x)) ∧ w'.cell? ⟨g2, 1, none⟩ = some (.slice A (dn x) c) ∧ w'.cell? ⟨g3, 0, none⟩ = some (.int .i64 (sg y)) ∧ w'.cell? ⟨g3, 1, none⟩ = some (.slice A' (dn y) c')) (ds := [11, 12]) #[false, false, false, false, false, false, false, false, false, false, false, false, false] (by kernel_rfl) rfl rfl (H.c2 m3 (H.d2 m2)) (fun hQ => ?_)
      generalize wo.drew = w1 at H hQ ⊢
      refine with_tabW tb60.tab11 tb60.bits11 (fun HT_ HW_ => ?_)
      refine pT HT_ 0 43 (bm 13 1) ?_
      refine pT HT_ 2 45 (bm 13 5) ?_
      refine pT HT_ 5 48 (bm 13 37) ?_
      refine pT HT_ 7 50 (bm 13 165) ?_
      refine pT HT_ 9 52 (bm 13 677) ?_
      refine tT HT_ HW_ hQ 1 44 (bm 13 679) ?_
      refine tT HT_ HW_ hQ 3 46 (bm 13 687) ?_
      refine pT HT_ 4 47 (bm 13 703) ?_
      refine tT HT_ HW_ hQ 8 51 (bm 13 959) ?_
      refine oT HT_ 6 49 (bm 13 1023) (fun K hK => ?_)
      refine gT Try.func75 #[.int .i64 (wrap64 (sg x * sg y)), .slice AQ nq cQ] ?_
      with_reducible refine (numberN (a := q) (x := qq) (wrap64 (sg x * sg y)) HQL.out (Nat.le_trans HQN.out (by decide)) HQO.out (H.row _ m1) V1.out V2.out).mono ?_
      rintro e w2 ⟨A3, c4, rfl, hr, hb⟩
      replace H := H.got hr hb
      clear hr hb
      refine ⟨_, rfl, ?_⟩
      refine hK.out _ _ (H.c2 m3 (H.d2 m2)) (fun hQ => ?_)
      clear hK K
      refine nT ?_
      refine oT HT_ 10 53 (bm 13 2047) (fun K hK => ?_)
      refine gT Try.func75 #[.int .i64 (sg x), .slice AR (dn rv) cR] ?_
      with_reducible refine (numberN (a := dl rv) (n := dn rv) (x := rr) (sg x) rfl (Nat.le_trans HRN.out (by decide)) (dl_okd rv) (H.row _ m1) V3.out V4.out).mono ?_
      rintro e w5 ⟨A6, c7, rfl, hr, hb⟩
      replace H := H.got hr hb
      clear hr hb
      refine ⟨_, rfl, ?_⟩
      refine hK.out _ _ (H.c2 m3 (H.d2 m2)) (fun hQ => ?_)
      clear hK K
      refine nT ?_
      refine lT HT_ 11 (bm 13 4095) (fun K hK => ?_)
      obtain ⟨k5_0, z5_0, k5_1, z5_1⟩ := H.b2 (g := g5) m0
      obtain ⟨k4_0, z4_0, k4_1, z4_1⟩ := H.b2 (g := g4) m1
      obtain ⟨k3_0, z3_0, k3_1, z3_1⟩ := H.b2 (g := g3) m2
      obtain ⟨k2_0, z2_0, k2_1, z2_1⟩ := H.b2 (g := g2) m3
      refine kT ?_
      refine hK.out _ _ ?_
      clear hK K
      refine lT HT_ 12 (bm 13 8191) (fun K hK => ?_)
      refine kT ?_
      refine hK.out _ _ ?_
      clear hK K
      refine done_ (done_of HT_.out (by kernel_rfl)) ?_
      try clear hQ
      go_wp2
      replace H := ((((H.setn [_] 0 (.int .i64 (sg qq)) rfl).setn [_] 1 (.slice A3 (dn qq) c4) rfl).setn [] 0 (.int .i64 (sg rr)) rfl).setn [] 1 (.slice A6 (dn rr) c7) rfl)
      refine bodyPost_ret (results_list (rs := [.cell 4 31, .cell 5 31]) rfl (by simp) (.cell g4 31 #[.int .i64 (sg qq), .slice A3 (dn qq) c4] (0, 0) _ rfl (H.blk m1) Try.underlying31 rfl (by kernel_rfl) (.cell g5 31 #[.int .i64 (sg rr), .slice A6 (dn rr) c7] (0, 0) _ rfl (H.blk m0) Try.underlying31 rfl (by kernel_rfl) .nil))) rfl ?_
      exact ⟨A3, c4, A6, c7, rfl, H.ret m1, H.ret m0, H.below⟩

    · obtain ⟨k, rfl⟩ : ∃ k, i = k + 1 := ⟨i - 1, by omega⟩
      obtain rfl : iv = (k : Int) := by omega
      clear hiv h0
      have hk : k < dn x := by omega
      obtain ⟨ax, ex, -⟩ := H.read (f := nw A c x) (mt m2) k hk
      simp only [nw] at ex
      subst ex
      obtain ⟨xd, hxd⟩ : ∃ xd, (dl x).getD k 0 = xd := ⟨_, rfl⟩
      obtain ⟨xd0, xd1⟩ := (dl_okd x).getD (by omega) k
      rw [hxd] at xd0 xd1
      have zx := H.rdv (mt m2) k (show k < (dl x).length from hk) xd hxd
      have HXD := Aside0.mk hxd
      obtain ⟨R0, hR0⟩ : ∃ R0, xd + 10 * rv = R0 := ⟨_, rfl⟩
      have HR1 := Aside0.mk (show 0 ≤ R0 ∧ R0 < 10 * Y by have := hD.out.2.2.1; have := hD.out.2.2.2.1; omega)
      have HO := Aside0.mk (show Okd 10 (xd :: dl rv) from Okd.cons xd0 xd1 (dl_okd rv))
      have HV := Aside0.mk (show vl 10 (xd :: dl rv) = R0 by rw [vl_cons, dl_vl, ← hR0]; have := hD.out.2.2.1; omega)
      have HL1 := Aside0.mk (show (xd :: dl rv).length = 1 + dn rv by show (dl rv).length + 1 = 1 + (dl rv).length; omega)
      have HRN := Aside0.mk (show 1 + dn rv ≤ 1000000 by omega)
      have HR0 := Aside0.mk hR0
      have HQL := Aside0.mk hql
      clear hR0 hxd xd0 xd1 hql
      go_wp2_with (first
        | ((with_reducible refine gate_dst (N := 23) rfl ?_); refine lit_event rfl (N := 23) rfl (cs := #[.int .i64 xd]) (t := 3) (n := 1) ?hr ?_; (case hr => go_simp; try rfl); intro g9 hg w5 hbox hb; replace H := H.newbox hg hbox hb; clear hg hbox hb; clear kx_0 kx_1 kxz_0 kxz_1 ky_0 ky_1 kyz_0 kyz_1 zx; have kx_0 : w5.cell? ⟨g2, 0, none⟩ = some (.int .i64 (sg x)) := H.cell m4 0; have kx_1 : w5.cell? ⟨g2, 1, none⟩ = some (.slice (some ax) (dn x) c) := H.cell m4 1; have kxz_0 := H.frozen (g := g2) m4 0; have kxz_1 := H.frozen (g := g2) m4 1; have ky_0 : w5.cell? ⟨g3, 0, none⟩ = some (.int .i64 (sg y)) := H.cell m3 0; have ky_1 : w5.cell? ⟨g3, 1, none⟩ = some (.slice A' (dn y) c') := H.cell m3 1; have kyz_0 := H.frozen (g := g3) m3 0; have kyz_1 := H.frozen (g := g3) m3 1)
        | ((with_reducible refine gate_dst (N := 25) rfl ?_); refine append_event rfl (N := 25) rfl (.tmp 23) (.tmp 24) 29 3 8 rfl Try.underlying29 P.info3 (g := g9) (d := xd) (l := dl rv) rfl rfl (H.blk m0) rfl (H.row (nw AR cR rv) m0) (by omega) (by decide) ?_; intro A6 c6 w6 hr hg; replace H := H.grown1 hg hr; clear hr hg kx_0 kx_1 kxz_0 kxz_1 ky_0 ky_1 kyz_0 kyz_1; have kx_0 : w6.cell? ⟨g2, 0, none⟩ = some (.int .i64 (sg x)) := H.cell m3 0; have kx_1 : w6.cell? ⟨g2, 1, none⟩ = some (.slice (some ax) (dn x) c) := H.cell m3 1; have kxz_0 := H.frozen (g := g2) m3 0; have kxz_1 := H.frozen (g := g2) m3 1; have ky_0 : w6.cell? ⟨g3, 0, none⟩ = some (.int .i64 (sg y)) := H.cell m2 0; have ky_1 : w6.cell? ⟨g3, 1, none⟩ = some (.slice A' (dn y) c') := H.cell m2 1; have kyz_0 := H.frozen (g := g3) m2 0; have kyz_1 := H.frozen (g := g3) m2 1)
        | (go_at_call 92; (with_reducible refine (trimX HL1.out HRN.out HO.out (H.row _ m0) R0 HV.out).mono ?_); rintro e w7 ⟨A7, c7, rfl, hr, hb⟩; replace H := H.got hr hb; clear hr hb kx_0 kx_1 kxz_0 kxz_1 ky_0 ky_1 kyz_0 kyz_1; have kx_0 : w7.cell? ⟨g2, 0, none⟩ = some (.int .i64 (sg x)) := H.cell m3 0; have kx_1 : w7.cell? ⟨g2, 1, none⟩ = some (.slice (some ax) (dn x) c) := H.cell m3 1; have kxz_0 := H.frozen (g := g2) m3 0; have kxz_1 := H.frozen (g := g2) m3 1; have ky_0 : w7.cell? ⟨g3, 0, none⟩ = some (.int .i64 (sg y)) := H.cell m2 0; have ky_1 : w7.cell? ⟨g3, 1, none⟩ = some (.slice A' (dn y) c') := H.cell m2 1; have kyz_0 := H.frozen (g := g3) m2 0; have kyz_1 := H.frozen (g := g3) m2 1))
      have H2 : Sit w w7 ok [(g5, .cells #[.int .i64 0, .slice none 0 0] 31 (0, 0)), (g4, .cells #[.int .i64 0, .slice none 0 0] 31 (0, 0)), (g3, .cells #[.int .i64 (sg y), .slice A' (dn y) c'] 31 (0, 0)), (g2, .cells #[.int .i64 (sg x), .slice (some ax) (dn x) c] 31 (0, 0))] [nw A7 c7 R0, ⟨.i64, AQ, cQ, q⟩, nw A' c' y, nw (some ax) c x] := H.fewer (List.Sublist.refl _) (by
        intro f hf
        simp only [List.mem_cons, List.not_mem_nil, or_false] at hf
        rcases hf with rfl | rfl | rfl | rfl
        · exact m0
        · exact m3
        · exact m4
        · exact m5)
      clear H
      go_loopw [7, 9] (fun vr vd wr => ∃ (d : Nat) (rv' : Int) (AR : Option Addr) (cR : Nat), vd = .int .i64 d ∧ vr = .slice AR (dn rv') cR ∧ Aside0 (rv' + d * Y = R0 ∧ 0 ≤ rv') ∧ d ≤ 9 ∧ Sit w wr ok [(g5, .cells #[.int .i64 0, .slice none 0 0] 31 (0, 0)), (g4, .cells #[.int .i64 0, .slice none 0 0] 31 (0, 0)), (g3, .cells #[.int .i64 (sg y), .slice A' (dn y) c'] 31 (0, 0)), (g2, .cells #[.int .i64 (sg x), .slice (some ax) (dn x) c] 31 (0, 0))] [nw AR cR rv', ⟨.i64, AQ, cQ, q⟩, nw A' c' y, nw (some ax) c x]) (fun _ vd _ => 10 - (intOf vd).toNat)
      case atStart => exact ⟨0, R0, A7, c7, rfl, rfl, ⟨by simp, HR1.out.1⟩, by omega, H2⟩
      case round =>
        clear H2 kx_0 kx_1 kxz_0 kxz_1 ky_0 ky_1 kyz_0 kyz_1
        obtain ⟨d, rv', AR', cR', rfl, rfl, hd, hd9, H⟩ := hrel
        have kx_0 : wr.cell? ⟨g2, 0, none⟩ = some (.int .i64 (sg x)) := H.cell m3 0; have kx_1 : wr.cell? ⟨g2, 1, none⟩ = some (.slice (some ax) (dn x) c) := H.cell m3 1; have kxz_0 := H.frozen (g := g2) m3 0; have kxz_1 := H.frozen (g := g2) m3 1; have ky_0 : wr.cell? ⟨g3, 0, none⟩ = some (.int .i64 (sg y)) := H.cell m2 0; have ky_1 : wr.cell? ⟨g3, 1, none⟩ = some (.slice A' (dn y) c') := H.cell m2 1; have kyz_0 := H.frozen (g := g3) m2 0; have kyz_1 := H.frozen (g := g3) m2 1
        obtain ⟨kc, hkc⟩ : ∃ kc, cmp3 (rv'.natAbs : Int) (y.natAbs : Int) = kc := ⟨_, rfl⟩
        have hdn : dn rv' ≤ dn y + 1 := by
          have h1 : rv' < 10 * Y := by
            have h2 : 0 ≤ (d : Int) * Y := Int.mul_nonneg (by omega) (Int.le_of_lt HY0.out)
            have := hd.out.1
            have := HR1.out.2
            omega
          refine dn_bound rv' _ ?_
          have h3 := dn_lt y
          have h4 := HY.out
          have h5 := hd.out.2
          rw [Nat.pow_succ]
          omega
        have HDN := Aside0.mk (show dn rv' ≤ 1000000 by omega)
        have HN6 := Aside0.mk (show dn y ≤ 1000000 by omega)
        have HKC := Aside0.mk hkc
        by_cases hge : Y ≤ rv'
        · have hk0 : 0 ≤ kc := by rw [← hkc]; have := HY.out; have := hd.out.2; unfold cmp3; rw [if_neg (by omega)]; split <;> omega
          have hk1 : decide (0 ≤ kc) = true := decide_eq_true hk0
          have hd10 := div9 hd.out.1 HR1.out.2 hge HY0.out
          obtain ⟨L, s1, s2, s3, s4⟩ := subN (dl_okd rv') (dl_okd y) (Nat.le_trans (show (dl rv').length ≤ 1000000 from HDN.out) (Nat.le_refl _)) (by rw [dl_vl, dl_vl]; have := HY.out; have := hd.out.2; omega)
          have SO := Aside0.mk s1
          have SV := Aside0.mk (show vl 10 L = rv' - Y by rw [s2, dl_vl, dl_vl]; have := HY.out; have := hd.out.2; omega)
          have SL := Aside0.mk (show L.length ≤ 1000000 by rw [s3]; exact HDN.out)
          have SF := Aside0.mk s4
          have T := Aside0.mk (show (rv' - Y) + ((d + 1 : Nat) : Int) * Y = R0 ∧ 0 ≤ rv' - Y by
            refine ⟨?_, by omega⟩
            rw [Int.natCast_add, Int.add_mul]
            have := hd.out.1
            omega)
          clear s1 s2 s3 s4 hkc hd hge hdn
          go_wp2_with (first
            | (go_at_call 89; (with_reducible refine (compareX (H.row _ m0) (H.row _ m2) HDN.out HN6.out kc HKC.out).mono ?_); rintro e w8 ⟨rfl, hb⟩; replace H := H.call hb; clear hb kx_0 kx_1 kxz_0 kxz_1 ky_0 ky_1 kyz_0 kyz_1; have kx_0 : w8.cell? ⟨g2, 0, none⟩ = some (.int .i64 (sg x)) := H.cell m3 0; have kx_1 : w8.cell? ⟨g2, 1, none⟩ = some (.slice (some ax) (dn x) c) := H.cell m3 1; have kxz_0 := H.frozen (g := g2) m3 0; have kxz_1 := H.frozen (g := g2) m3 1; have ky_0 : w8.cell? ⟨g3, 0, none⟩ = some (.int .i64 (sg y)) := H.cell m2 0; have ky_1 : w8.cell? ⟨g3, 1, none⟩ = some (.slice A' (dn y) c') := H.cell m2 1; have kyz_0 := H.frozen (g := g3) m2 0; have kyz_1 := H.frozen (g := g3) m2 1)
            | (go_at_call 90; (with_reducible refine (SF.out _ _ _ _ (dn rv') (dn y) _ _ rfl rfl (H.row _ m0) (H.row _ m2)).mono ?_); rintro e w9 ⟨A9, c9, rfl, hr, hb⟩; replace H := H.got (fresh_row hr) hb; clear hr hb kx_0 kx_1 kxz_0 kxz_1 ky_0 ky_1 kyz_0 kyz_1; have kx_0 : w9.cell? ⟨g2, 0, none⟩ = some (.int .i64 (sg x)) := H.cell m3 0; have kx_1 : w9.cell? ⟨g2, 1, none⟩ = some (.slice (some ax) (dn x) c) := H.cell m3 1; have kxz_0 := H.frozen (g := g2) m3 0; have kxz_1 := H.frozen (g := g2) m3 1; have ky_0 : w9.cell? ⟨g3, 0, none⟩ = some (.int .i64 (sg y)) := H.cell m2 0; have ky_1 : w9.cell? ⟨g3, 1, none⟩ = some (.slice A' (dn y) c') := H.cell m2 1; have kyz_0 := H.frozen (g := g3) m2 0; have kyz_1 := H.frozen (g := g3) m2 1)
            | (go_at_call 92; (with_reducible refine (trimX rfl SL.out SO.out (H.row _ m0) (rv' - Y) SV.out).mono ?_); rintro e wA ⟨AA, cA, rfl, hr, hb⟩; replace H := H.got hr hb; clear hr hb kx_0 kx_1 kxz_0 kxz_1 ky_0 ky_1 kyz_0 kyz_1; have kx_0 : wA.cell? ⟨g2, 0, none⟩ = some (.int .i64 (sg x)) := H.cell m3 0; have kx_1 : wA.cell? ⟨g2, 1, none⟩ = some (.slice (some ax) (dn x) c) := H.cell m3 1; have kxz_0 := H.frozen (g := g2) m3 0; have kxz_1 := H.frozen (g := g2) m3 1; have ky_0 : wA.cell? ⟨g3, 0, none⟩ = some (.int .i64 (sg y)) := H.cell m2 0; have ky_1 : wA.cell? ⟨g3, 1, none⟩ = some (.slice A' (dn y) c') := H.cell m2 1; have kyz_0 := H.frozen (g := g3) m2 0; have kyz_1 := H.frozen (g := g3) m2 1))
          have H2 : Sit w wA ok [(g5, .cells #[.int .i64 0, .slice none 0 0] 31 (0, 0)), (g4, .cells #[.int .i64 0, .slice none 0 0] 31 (0, 0)), (g3, .cells #[.int .i64 (sg y), .slice A' (dn y) c'] 31 (0, 0)), (g2, .cells #[.int .i64 (sg x), .slice (some ax) (dn x) c] 31 (0, 0))] [nw AA cA (rv' - Y), ⟨.i64, AQ, cQ, q⟩, nw A' c' y, nw (some ax) c x] := H.fewer (List.Sublist.refl _) (by
            intro f hf
            simp only [List.mem_cons, List.not_mem_nil, or_false] at hf
            rcases hf with rfl | rfl | rfl | rfl
            · exact m0
            · exact m3
            · exact m4
            · exact m5)
          go_roundw
          case rel => exact ⟨d + 1, rv' - Y, AA, cA, by go_num, rfl, T, hd10, H2⟩
          case measure => first | (simp [intOf]; done) | (simp [intOf]; omega)
        · have hk0 : ¬ 0 ≤ kc := by rw [← hkc]; have := HY.out; have := hd.out.2; unfold cmp3; rw [if_pos (by omega)]; omega
          have hk1 : decide (0 ≤ kc) = false := decide_eq_false hk0
          have T := Aside0.mk (hD.out.next (d := d) (r' := rv') HXD.out (by rw [HR0.out]; exact hd.out.1) hd.out.2 (by omega) hd9)
          have HNQ := Aside0.mk (show ((d : Int) :: q).length = 1 + nq by have := HQL.out; simp; omega)
          have hnq : nq ≤ 100000 := by have := HQL.out; omega
          clear hkc hge hdn hd
          go_wp2_with (first
            | (go_at_call 89; (with_reducible refine (compareX (H.row _ m0) (H.row _ m2) HDN.out HN6.out kc HKC.out).mono ?_); rintro e w8 ⟨rfl, hb⟩; replace H := H.call hb; clear hb kx_0 kx_1 kxz_0 kxz_1 ky_0 ky_1 kyz_0 kyz_1; have kx_0 : w8.cell? ⟨g2, 0, none⟩ = some (.int .i64 (sg x)) := H.cell m3 0; have kx_1 : w8.cell? ⟨g2, 1, none⟩ = some (.slice (some ax) (dn x) c) := H.cell m3 1; have kxz_0 := H.frozen (g := g2) m3 0; have kxz_1 := H.frozen (g := g2) m3 1; have ky_0 : w8.cell? ⟨g3, 0, none⟩ = some (.int .i64 (sg y)) := H.cell m2 0; have ky_1 : w8.cell? ⟨g3, 1, none⟩ = some (.slice A' (dn y) c') := H.cell m2 1; have kyz_0 := H.frozen (g := g3) m2 0; have kyz_1 := H.frozen (g := g3) m2 1)
            | ((with_reducible refine gate_dst (N := 40) rfl ?_); refine lit_event rfl (N := 40) rfl (cs := #[.int .i64 (d : Int)]) (t := 3) (n := 1) ?hr ?_; (case hr => go_simp; try rfl); intro gA hg w9 hbox hb; replace H := H.newbox hg hbox hb; clear hg hbox hb; clear kx_0 kx_1 kxz_0 kxz_1 ky_0 ky_1 kyz_0 kyz_1; have kx_0 : w9.cell? ⟨g2, 0, none⟩ = some (.int .i64 (sg x)) := H.cell m4 0; have kx_1 : w9.cell? ⟨g2, 1, none⟩ = some (.slice (some ax) (dn x) c) := H.cell m4 1; have kxz_0 := H.frozen (g := g2) m4 0; have kxz_1 := H.frozen (g := g2) m4 1; have ky_0 : w9.cell? ⟨g3, 0, none⟩ = some (.int .i64 (sg y)) := H.cell m3 0; have ky_1 : w9.cell? ⟨g3, 1, none⟩ = some (.slice A' (dn y) c') := H.cell m3 1; have kyz_0 := H.frozen (g := g3) m3 0; have kyz_1 := H.frozen (g := g3) m3 1)
            | ((with_reducible refine gate_dst (N := 42) rfl ?_); refine append_event rfl (N := 42) rfl (.tmp 40) (.tmp 41) 29 3 8 rfl Try.underlying29 P.info3 (g := gA) (d := (d : Int)) (l := q) rfl rfl (H.blk m0) HQL.out (H.row _ m1) (by omega) (by decide) ?_; intro AA cA wA hr hg; replace H := H.grown1 hg hr; clear hr hg kx_0 kx_1 kxz_0 kxz_1 ky_0 ky_1 kyz_0 kyz_1; have kx_0 : wA.cell? ⟨g2, 0, none⟩ = some (.int .i64 (sg x)) := H.cell m3 0; have kx_1 : wA.cell? ⟨g2, 1, none⟩ = some (.slice (some ax) (dn x) c) := H.cell m3 1; have kxz_0 := H.frozen (g := g2) m3 0; have kxz_1 := H.frozen (g := g2) m3 1; have ky_0 : wA.cell? ⟨g3, 0, none⟩ = some (.int .i64 (sg y)) := H.cell m2 0; have ky_1 : wA.cell? ⟨g3, 1, none⟩ = some (.slice A' (dn y) c') := H.cell m2 1; have kyz_0 := H.frozen (g := g3) m2 0; have kyz_1 := H.frozen (g := g3) m2 1))
          have H2 : Sit w wA ok [(g5, .cells #[.int .i64 0, .slice none 0 0] 31 (0, 0)), (g4, .cells #[.int .i64 0, .slice none 0 0] 31 (0, 0)), (g3, .cells #[.int .i64 (sg y), .slice A' (dn y) c'] 31 (0, 0)), (g2, .cells #[.int .i64 (sg x), .slice (some ax) (dn x) c] 31 (0, 0))] [nw AR' cR' rv', ⟨.i64, AA, cA, ((d : Int) :: q)⟩, nw A' c' y, nw (some ax) c x] := H.fewer (List.Sublist.refl _) (by
            intro f hf
            simp only [List.mem_cons, List.not_mem_nil, or_false] at hf
            rcases hf with rfl | rfl | rfl | rfl
            · exact m1
            · exact m0
            · exact m3
            · exact m4)
          go_roundw
          case rel => exact ⟨_, k, 1 + nq, _, AA, cA, rv', AR', cR', by go_num, rfl, rfl, rfl, HNQ.out, T, H2⟩
          case measure => first | (simp [intOf]; done) | (simp [intOf]; omega)

theorem DivN {A A' : Option Addr} {c c' : Nat} {x y : Int} {w : World} {ok : Nat → Prop} (hf : (nw A c x).at w ok) (hf' : (nw A' c' y).at w ok) (hm : dn x ≤ 100000) (hn : dn y ≤ 100000) (q r : Int) (h : y ≠ 0 ∧ x.tdiv y = q ∧ x.tmod y = r) : Calls Try.prog 60 #[.agg #[.int .i64 (sg x), .slice A (dn x) c], .agg #[.int .i64 (sg y), .slice A' (dn y) c']] w (RetNm2 w ok q r) := DivN_ hf hf' hm hn ⟨h.1⟩ q r ⟨h.2.1⟩ ⟨h.2.2⟩

end Go.Proofs.Ytdkapdgbfejgdaa
