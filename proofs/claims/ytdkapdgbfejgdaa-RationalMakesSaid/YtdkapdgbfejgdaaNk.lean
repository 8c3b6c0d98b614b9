/- The reference's numbers in memory: contracts of its small functions. -/
import Derived.Test.YtdkapdgbfejgdaaTp
import Derived.Test.YtdkapdgbfejgdaaNq
/- ontimeref01.Parse's contract in numbers. -/
set_option linter.unusedVariables false
set_option linter.unusedSimpArgs false
namespace Go.Proofs.Ytdkapdgbfejgdaa
open Go.RowKit Go.Proofs.YtdkapdgbfejgdaaW.PrintWords Go.Proofs.YtdkapdgbfejgdaaW.PrintLast Go.Proofs.YtdkapdgbfejgdaaW.PrintMore
open Go.Proofs.Ytdkapdgbfejgdaa.P

theorem ref_trim : ∀ (k : Nat) (l : List Int), l.length < k → l.length ≤ 1000000000 → ontimeref01_trim.l0 k l = some (trimR l) := by
  intro k
  induction k with
  | zero => intro l h; omega
  | succ k ih =>
    intro l h hl
    rcases List.eq_nil_or_concat l with rfl | ⟨xs, x, rfl⟩
    · simp only [ontimeref01_trim.l0]
      rw [if_neg (by simp)]; rfl
    · rw [List.concat_eq_append] at h hl ⊢
      simp only [List.length_append, List.length_cons, List.length_nil] at h hl
      have hw : wrap64 (((xs ++ [x]).length : Int) - 1) = (xs.length : Int) := by unfold wrap64; simp; omega
      simp only [ontimeref01_trim.l0, hw]
      have hlen : ((xs ++ [x]).length : Int) = (xs.length : Int) + 1 := by simp
      rw [if_pos (by omega), if_pos (by omega), if_pos (by omega)]
      have hr : rd (xs ++ [x]) (xs.length : Int) = x := by unfold rd; rw [Int.toNat_natCast]; simp
      rw [hr]
      by_cases hx : x = 0
      · subst hx
        rw [if_pos rfl, if_pos (by omega), Int.toNat_natCast, List.take_left, ih xs (by omega) (by omega), trimR_snoc_zero]
      · rw [if_neg hx]
        rw [trimR_id _ (by intro y hy; simp at hy; omega)]
theorem ref_number (k : Nat) (sgn : Int) (l : List Int) (h : l.length < k) (hl : l.length ≤ 1000000000) (ho : Okd 10 l) :
    ontimeref01_number.f k sgn l = some (if vl 10 l = 0 then 0 else sgn, dg 10 (vl 10 l).toNat) := by
  unfold ontimeref01_number.f ontimeref01_trim.f
  have e : trimR l = dg 10 (vl 10 l).toNat := trimR_dg 10 (by omega) l ho
  rw [ref_trim k l h hl, e]
  simp only [Option.bind_some]
  have hv := vl_nonneg (by omega) ho
  by_cases h0 : vl 10 l = 0
  · rw [h0, if_pos rfl]; rfl
  · have hne : dg 10 (vl 10 l).toNat ≠ [] := fun e => by have := (dg_nil_iff 10 (by omega) _).mp e; omega
    rw [if_neg h0, if_neg (by have := List.length_pos_iff.mpr hne; omega)]
theorem ref_l0 (s : ByteArray) (sgn : Int) (a N : Nat) (hN : a + N = s.size) (hs : s.size ≤ 4096) : ∀ n, n ≤ N → ∀ (k : Nat) (acc : List Int), acc.length + n = N → acc ++ rl s a n = rl s a N → n + N + 2 < k → Dg s (a + n) (N - n) →
    (Dg s a N → ontimeref01_Parse.l0 k s sgn a acc (((a + n : Nat) : Int) - 1) = some (if pc s a N = 0 then 0 else sgn, dg 10 (pc s a N).toNat, true)) ∧ (¬ Dg s a N → ontimeref01_Parse.l0 k s sgn a acc (((a + n : Nat) : Int) - 1) = some (0, [], false)) := by
  intro n
  induction n with
  | zero =>
    intro _ k acc hl ha hk hd
    obtain ⟨k, rfl⟩ : ∃ j, k = j + 1 := ⟨k - 1, by omega⟩
    have hd' : Dg s a N := hd
    refine ⟨fun _ => ?_, fun h => absurd hd' h⟩
    rw [rl, List.append_nil] at ha
    simp only [ontimeref01_Parse.l0]
    rw [if_neg (by omega), ref_number k sgn acc (by omega) (by omega) (by rw [ha]; exact rl_okd hd'), ha, rl_vl]
    rfl
  | succ n ih =>
    intro hn k acc hl ha hk hd
    obtain ⟨k, rfl⟩ : ∃ j, k = j + 1 := ⟨k - 1, by omega⟩
    have hi : ((a + (n + 1) : Nat) : Int) - 1 = ((a + n : Nat) : Int) := by omega
    rw [hi]
    simp only [ontimeref01_Parse.l0]
    rw [if_pos (by omega), if_pos (by omega), if_pos (by omega)]
    by_cases c1 : bt s ((a + n : Nat) : Int) < 48
    · rw [if_pos c1]
      refine ⟨fun h => ?_, fun _ => rfl⟩
      have := h (a + n) (by omega) (by omega)
      unfold Dig at this
      omega
    · rw [if_neg c1]
      by_cases c2 : bt s ((a + n : Nat) : Int) > 57
      · rw [if_pos c2]
        refine ⟨fun h => ?_, fun _ => rfl⟩
        have := h (a + n) (by omega) (by omega)
        unfold Dig at this
        omega
      · rw [if_neg c2, if_pos (by omega)]
        have e1 : (bt s ((a + n : Nat) : Int) - 48) % 256 = bt s ((a + n : Nat) : Int) - 48 := by omega
        have e2 : wrap64 (((a + n : Nat) : Int) - 1) = ((a + n : Nat) : Int) - 1 := by unfold wrap64; omega
        rw [e1, e2]
        refine ih (by omega) k _ (by simp; omega) (by rw [List.append_assoc]; exact ha) (by omega) ?_
        intro j h1 h2
        by_cases hj : j = a + n
        · subst hj; exact ⟨by omega, by omega⟩
        · exact hd j (by omega) (by omega)

theorem ref_f (s : ByteArray) (hs : s.size ≤ 4096) (x e : Int) (h : pr s = (x, e)) :
    ∃ k, ontimeref01_Parse.f k s = some (if e = 0 then (sg x, dg 10 x.natAbs, true) else (0, [], false)) := by
  have hle := frm_le s
  have hj : ∀ k : Nat, ontimeref01_Parse.f (k + 1) s = ontimeref01_Parse.j1 k s (if cutB s = true then -1 else 1) (frm s) := by
    intro k
    unfold ontimeref01_Parse.f frm
    rcases cut_cases s with ⟨h1, h2, h3, -⟩ | ⟨h1, h2, h3⟩
    · rw [if_pos (by omega), if_pos (by omega), h1, h3]
      simp only [ontimeref01_Parse.j0]
      rfl
    · rw [h1]
      simp only [ontimeref01_Parse.j0]
      rcases h2 with h2 | h2
      · rw [if_neg (by omega)]; rfl
      · by_cases h4 : (s.size : Int) > 0
        · rw [if_pos h4, if_pos (by omega)]
          have : (bt s 0 == 45) = false := beq_eq_false_iff_ne.mpr h2
          rw [this]; rfl
        · rw [if_neg h4]; rfl
  refine ⟨2 * s.size + 12, ?_⟩
  rw [show 2 * s.size + 12 = 2 * s.size + 11 + 1 by omega, hj]
  generalize hsg : (if cutB s = true then (-1 : Int) else 1) = sgn
  have hl := ref_l0 s sgn (frm s) (s.size - frm s) (by omega) hs (s.size - frm s) (Nat.le_refl _) (2 * s.size + 9) [] (by simp) rfl (by omega) (fun j h1 h2 => by omega)
  have hw : wrap64 ((s.size : Int) - 1) = ((frm s + (s.size - frm s) : Nat) : Int) - 1 := by unfold wrap64; omega
  rw [← hw] at hl
  simp only [ontimeref01_Parse.j1]
  rcases pr_eq s hs x e h with ⟨h0, h1, h2, rfl, hx⟩ | ⟨h0, rfl, rfl⟩
  · rw [if_neg (by omega), if_pos (by omega), if_pos (by omega), if_pos rfl]
    have hb := pc_bound h2
    have fin : ontimeref01_Parse.l0 (2 * s.size + 9) s sgn (frm s) [] (wrap64 ((s.size : Int) - 1)) = some (sg x, dg 10 x.natAbs, true) := by
      rw [hl.1 h2]
      have e1 : x.natAbs = (pc s (frm s) (s.size - frm s)).toNat := by rw [hx]; split <;> omega
      have e2 : (if pc s (frm s) (s.size - frm s) = 0 then 0 else sgn) = sg x := by
        rw [← hsg, hx]
        unfold sg
        split
        · next h5 => rw [h5]; split <;> rfl
        · split <;> repeat' split <;> omega
      rw [e1, e2]
    by_cases c : bt s (frm s : Int) = 48
    · rw [if_pos c]
      have : decide ((s.size : Int) > 1) = false := decide_eq_false (by intro h5; exact h1 ⟨c, by omega⟩)
      rw [this]
      simp only [ontimeref01_Parse.j2]
      rw [if_neg (by simp)]
      exact fin
    · rw [if_neg c]
      simp only [ontimeref01_Parse.j2]
      rw [if_neg (by simp)]
      exact fin
  · have hrhs : (if (3 : Int) = 0 then (sg 0, dg 10 (Int.natAbs 0), true) else (0, [], false)) = ((0 : Int), ([] : List Int), false) := if_neg (by omega)
    rw [hrhs]
    by_cases c0 : s.size = frm s
    · rw [if_pos (by omega)]
      simp only [ontimeref01_Parse.j2]
      rfl
    · rw [if_neg (by omega), if_pos (by omega), if_pos (by omega)]
      by_cases c : bt s (frm s : Int) = 48 ∧ 1 < s.size
      · rw [if_pos c.1]
        have : decide ((s.size : Int) > 1) = true := decide_eq_true (by have := c.2; omega)
        rw [this]
        simp only [ontimeref01_Parse.j2]
        rfl
      · have h5 : ¬ Dg s (frm s) (s.size - frm s) := by
          rcases h0 with h0 | h0 | h0
          · exact absurd h0 c0
          · exact absurd h0 c
          · exact h0
        have fin := hl.2 h5
        by_cases c1 : bt s (frm s : Int) = 48
        · rw [if_pos c1]
          have : decide ((s.size : Int) > 1) = false := decide_eq_false (by intro h6; exact c ⟨c1, by omega⟩)
          rw [this]
          simp only [ontimeref01_Parse.j2]
          rw [if_neg (by simp)]
          exact fin
        · rw [if_neg c1]
          simp only [ontimeref01_Parse.j2]
          rw [if_neg (by simp)]
          exact fin

/-- It returns a number of the reference, and whether there is one. -/
def RetR (w : World) (sgn : Int) (l : List Int) (b : Bool) (e : Ending) (w' : World) : Prop :=
  ∃ A c, e = .returned (.tuple #[.agg #[.int .i64 sgn, .slice A l.length c], .bool b]) ∧ (⟨.i64, A, c, l⟩ : Rw).at w' (fun k => w.heap.size ≤ k) ∧ Below w.heap.size w w'
theorem RefParse_ok (s : ByteArray) (hs : s.size ≤ 4096) (x : Int) (h : pr s = (x, 0)) (w : World) : Calls Try.prog 24 #[.string s] w (RetR w (sg x) (dg 10 x.natAbs) true) := by
  obtain ⟨k, hk⟩ := ref_f s hs x 0 h
  rw [if_pos rfl] at hk
  refine (ontimeref01_Parse.calls k s _ _ _ w hk).mono ?_
  rintro e w' ⟨v, rfl, ⟨A, c, rfl, h1, h2⟩, hb⟩
  exact ⟨A, c, rfl, ⟨h1, h2⟩, hb⟩
theorem RefParse_no (s : ByteArray) (hs : s.size ≤ 4096) (x e : Int) (h : pr s = (x, e)) (he : e ≠ 0) (w : World) : Calls Try.prog 24 #[.string s] w (RetR w 0 [] false) := by
  obtain ⟨k, hk⟩ := ref_f s hs x e h
  rw [if_neg he] at hk
  refine (ontimeref01_Parse.calls k s _ _ _ w hk).mono ?_
  rintro e w' ⟨v, rfl, ⟨A, c, rfl, h1, h2⟩, hb⟩
  exact ⟨A, c, rfl, ⟨h1, h2⟩, hb⟩


end Go.Proofs.Ytdkapdgbfejgdaa

/- The reference's arithmetic on decimal digits: the plain laws. -/
set_option linter.unusedVariables false
set_option linter.unusedSimpArgs false
namespace Go.Proofs.Ytdkapdgbfejgdaa
open Go.RowKit Go.Proofs.YtdkapdgbfejgdaaW.PrintWords Go.Proofs.YtdkapdgbfejgdaaW.PrintLast Go.Proofs.YtdkapdgbfejgdaaW.PrintMore
open Go.Proofs.Ytdkapdgbfejgdaa.P

theorem w64 {x : Int} (h0 : -9223372036854775808 ≤ x) (h1 : x ≤ 9223372036854775807) : wrap64 x = x := by unfold wrap64; omega
theorem digit_f (l : List Int) (i : Nat) : ontimeref01_digit.f l (i : Int) = some (l.getD i 0) := by
  unfold ontimeref01_digit.f
  by_cases h : i < l.length
  · rw [if_pos (by omega), if_pos (by omega)]
    simp [rd]
  · rw [if_neg (by omega)]
    simp [List.getD, h]
theorem vl_drop (b : Int) (l : List Int) (i : Nat) : vl b (l.drop i) = l.getD i 0 + b * vl b (l.drop (i + 1)) := by
  by_cases h : i < l.length
  · rw [List.drop_eq_getElem_cons h, vl_cons]
    simp [List.getD, h]
  · rw [List.drop_of_length_le (by omega), List.drop_of_length_le (by omega), vl_nil]
    simp [List.getD, h]
theorem getD_big {l : List Int} {i : Nat} (h : l.length ≤ i) : l.getD i 0 = 0 := by simp [List.getD, show ¬ i < l.length by omega]
theorem add_nums {x y c : Int} {i : Nat} (x0 : 0 ≤ x) (x1 : x < 10) (y0 : 0 ≤ y) (y1 : y < 10) (c0 : 0 ≤ c) (c1 : c ≤ 1) (hi : i ≤ 2000000) :
    wrap64 (x + y) = x + y ∧ wrap64 (x + y + c) = x + y + c ∧ (x + y + c).tmod 10 = (x + y + c) % 10 ∧ (x + y + c).tdiv 10 = (x + y + c) / 10 ∧ wrap64 ((x + y + c) / 10) = (x + y + c) / 10 ∧ wrap64 ((i : Int) + 1) = ((i + 1 : Nat) : Int) := by
  refine ⟨w64 (by omega) (by omega), w64 (by omega) (by omega), Int.tmod_eq_emod_of_nonneg (by omega), Int.tdiv_eq_ediv_of_nonneg (by omega), w64 (by omega) (by omega), ?_⟩
  rw [w64 (by omega) (by omega)]
  omega
theorem sub_nums {x y c : Int} {i : Nat} (x0 : 0 ≤ x) (x1 : x < 10) (y0 : 0 ≤ y) (y1 : y < 10) (c0 : 0 ≤ c) (c1 : c ≤ 1) (hi : i ≤ 2000000) :
    wrap64 (x - y) = x - y ∧ wrap64 (x - y - c) = x - y - c ∧ wrap64 (x - y - c + 10) = x - y - c + 10 ∧ wrap64 ((i : Int) + 1) = ((i + 1 : Nat) : Int) := by
  refine ⟨w64 (by omega) (by omega), w64 (by omega) (by omega), w64 (by omega) (by omega), ?_⟩
  rw [w64 (by omega) (by omega)]
  omega
theorem add_loop {a b : List Int} (ha : Okd 10 a) (hb : Okd 10 b) (B : Nat) (hla : a.length ≤ B) (hlb : b.length ≤ B) (hB : B ≤ 1000000) :
    ∀ (M i k : Nat) (c : Int) (out : List Int), 2 * (B - i) + c.toNat ≤ M → 0 ≤ c → c ≤ 1 → i + c.toNat ≤ B + 1 → out.length = i → 2 * M + 4 ≤ k →
      ∃ s, ontimeref01_add.l0 k a b out c (i : Int) = some (out ++ s) ∧ Okd 10 s ∧ vl 10 s = vl 10 (a.drop i) + vl 10 (b.drop i) + c ∧ s.length + i ≤ B + 1 := by
  intro M
  induction M with
  | zero =>
    intro i k c out hM c0 c1 hi ho hk
    obtain ⟨k, rfl⟩ : ∃ j, k = j + 2 := ⟨k - 2, by omega⟩
    have hc : c = 0 := by omega
    subst hc
    refine ⟨[], ?_, Okd.nil _, ?_, by simp; omega⟩
    · simp only [ontimeref01_add.l0]
      rw [if_neg (by omega), if_neg (by omega)]
      simp only [ontimeref01_add.j1]
      simp
    · rw [List.drop_of_length_le (by omega), List.drop_of_length_le (by omega)]; rfl
  | succ M ih =>
    intro i k c out hM c0 c1 hi ho hk
    obtain ⟨k, rfl⟩ : ∃ j, k = j + 2 := ⟨k - 2, by omega⟩
    by_cases hd : ¬ i < a.length ∧ ¬ i < b.length ∧ c = 0
    · obtain ⟨h1, h2, rfl⟩ := hd
      refine ⟨[], ?_, Okd.nil _, ?_, by simp; omega⟩
      · simp only [ontimeref01_add.l0]
        rw [if_neg (by omega), if_neg (by omega)]
        simp only [ontimeref01_add.j1]
        simp
      · rw [List.drop_of_length_le (by omega), List.drop_of_length_le (by omega)]; rfl
    · have e1 : ontimeref01_add.l0 (k + 2) a b out c (i : Int) = ontimeref01_add.j1 (k + 1) a b out c (i : Int) true := by
        simp only [ontimeref01_add.l0]
        by_cases h1 : i < a.length
        · rw [if_pos (by omega)]
        · rw [if_neg (by omega)]
          by_cases h2 : i < b.length
          · rw [if_pos (by omega)]
          · rw [if_neg (by omega), decide_eq_true (by omega)]
      obtain ⟨x, hx⟩ : ∃ x, a.getD i 0 = x := ⟨_, rfl⟩
      obtain ⟨y, hy⟩ : ∃ y, b.getD i 0 = y := ⟨_, rfl⟩
      have gx := ha.getD (by omega) i
      have gy := hb.getD (by omega) i
      have zx : ¬ i < a.length → x = 0 := fun h => by rw [← hx]; exact getD_big (by omega)
      have zy : ¬ i < b.length → y = 0 := fun h => by rw [← hy]; exact getD_big (by omega)
      rw [hx] at gx
      rw [hy] at gy
      obtain ⟨s, hs, h2, h3, h4⟩ := ih (i + 1) k ((x + y + c) / 10) (out ++ [(x + y + c) % 10]) (by omega) (by omega) (by omega) (by omega) (by simp [ho]) (by omega)
      have co : out.length < 17592186044416 := by omega
      refine ⟨(x + y + c) % 10 :: s, ?_, Okd.cons (by omega) (by omega) h2, ?_, by simp; omega⟩
      · obtain ⟨w1, w2, t1, t2, w3, w4⟩ := add_nums gx.1 gx.2 gy.1 gy.2 c0 c1 (show i ≤ 2000000 by omega)
        rw [e1]
        simp only [ontimeref01_add.j1]
        rw [if_pos trivial, digit_f, digit_f, hx, hy]
        simp only [Option.bind_some]
        rw [if_pos co, w1, w2, t1, t2, w3, w4, hs]
        simp
      · rw [vl_cons, h3, vl_drop 10 a i, vl_drop 10 b i, hx, hy]
        omega
/-- What add makes. -/
theorem add_f {a b : List Int} (ha : Okd 10 a) (hb : Okd 10 b) (hla : a.length ≤ 1000000) (hlb : b.length ≤ 1000000) :
    ∃ r k, ontimeref01_add.f k a b = some r ∧ Okd 10 r ∧ vl 10 r = vl 10 a + vl 10 b ∧ r.length ≤ max a.length b.length + 1 := by
  obtain ⟨s, h1, h2, h3, h4⟩ := add_loop ha hb (max a.length b.length) (by omega) (by omega) (by omega) (2 * max a.length b.length) 0 (4 * max a.length b.length + 4) 0 [] (by simp) (by omega) (by omega) (by simp) rfl (by omega)
  exact ⟨s, _, h1, h2, by simpa using h3, by omega⟩
theorem sub_loop {a b : List Int} (ha : Okd 10 a) (hb : Okd 10 b) (hla : a.length ≤ 1000000) :
    ∀ (M i k : Nat) (c : Int) (out : List Int), a.length - i ≤ M → i ≤ a.length → 0 ≤ c → c ≤ 1 → 0 ≤ vl 10 (a.drop i) - vl 10 (b.drop i) - c → out.length = i → M + 1 ≤ k →
      ∃ s, ontimeref01_sub.l0 k a b out c (i : Int) = some (out ++ s) ∧ Okd 10 s ∧ vl 10 s = vl 10 (a.drop i) - vl 10 (b.drop i) - c ∧ s.length + i = a.length := by
  intro M
  induction M with
  | zero =>
    intro i k c out hM hi c0 c1 hv ho hk
    obtain ⟨k, rfl⟩ : ∃ j, k = j + 1 := ⟨k - 1, by omega⟩
    refine ⟨[], ?_, Okd.nil _, ?_, by simp; omega⟩
    · simp only [ontimeref01_sub.l0]
      rw [if_neg (by omega)]; simp
    · rw [List.drop_of_length_le (by omega)] at hv ⊢
      have := vl_nonneg (b := 10) (by omega) (hb.drop i)
      rw [vl_nil] at hv ⊢
      omega
  | succ M ih =>
    intro i k c out hM hi c0 c1 hv ho hk
    obtain ⟨k, rfl⟩ : ∃ j, k = j + 1 := ⟨k - 1, by omega⟩
    by_cases hd : i < a.length
    · obtain ⟨x, hx⟩ : ∃ x, a.getD i 0 = x := ⟨_, rfl⟩
      obtain ⟨y, hy⟩ : ∃ y, b.getD i 0 = y := ⟨_, rfl⟩
      have gx := ha.getD (by omega) i
      have gy := hb.getD (by omega) i
      rw [hx] at gx
      rw [hy] at gy
      have co : out.length < 17592186044416 := by omega
      have ci : (i : Int) < (a.length : Int) := by omega
      rw [vl_drop 10 a i, vl_drop 10 b i, hx, hy] at hv
      by_cases hn : x - y - c < 0
      · obtain ⟨s, hs, h2, h3, h4⟩ := ih (i + 1) k 1 (out ++ [x - y - c + 10]) (by omega) (by omega) (by omega) (by omega) (by omega) (by simp [ho]) (by omega)
        refine ⟨(x - y - c + 10) :: s, ?_, Okd.cons (by omega) (by omega) h2, ?_, by simp; omega⟩
        · obtain ⟨w1, w2, w3, w4⟩ := sub_nums gx.1 gx.2 gy.1 gy.2 c0 c1 (show i ≤ 2000000 by omega)
          simp only [ontimeref01_sub.l0]
          rw [if_pos ci, digit_f, digit_f, hx, hy]
          simp only [Option.bind_some]
          rw [w1, w2, if_pos hn, if_pos co, w3, w4, hs]
          simp
        · rw [vl_cons, h3, vl_drop 10 a i, vl_drop 10 b i, hx, hy]
          omega
      · obtain ⟨s, hs, h2, h3, h4⟩ := ih (i + 1) k 0 (out ++ [x - y - c]) (by omega) (by omega) (by omega) (by omega) (by omega) (by simp [ho]) (by omega)
        refine ⟨(x - y - c) :: s, ?_, Okd.cons (by omega) (by omega) h2, ?_, by simp; omega⟩
        · obtain ⟨w1, w2, w3, w4⟩ := sub_nums gx.1 gx.2 gy.1 gy.2 c0 c1 (show i ≤ 2000000 by omega)
          simp only [ontimeref01_sub.l0]
          rw [if_pos ci, digit_f, digit_f, hx, hy]
          simp only [Option.bind_some]
          rw [w1, w2, if_neg hn, if_pos co, w4, hs]
          simp
        · rw [vl_cons, h3, vl_drop 10 a i, vl_drop 10 b i, hx, hy]
          omega
    · refine ⟨[], ?_, Okd.nil _, ?_, by simp; omega⟩
      · simp only [ontimeref01_sub.l0]
        rw [if_neg (by omega)]; simp
      · rw [List.drop_of_length_le (by omega)] at hv ⊢
        have := vl_nonneg (b := 10) (by omega) (hb.drop i)
        rw [vl_nil] at hv ⊢
        omega
/-- What sub makes. -/
theorem sub_f {a b : List Int} (ha : Okd 10 a) (hb : Okd 10 b) (hla : a.length ≤ 1000000) (h : vl 10 b ≤ vl 10 a) :
    ∃ r k, ontimeref01_sub.f k a b = some r ∧ Okd 10 r ∧ vl 10 r = vl 10 a - vl 10 b ∧ r.length = a.length := by
  obtain ⟨s, h1, h2, h3, h4⟩ := sub_loop ha hb hla a.length 0 (a.length + 1) 0 [] (by omega) (by omega) (by omega) (by omega) (by simp; omega) rfl (by omega)
  exact ⟨s, _, h1, h2, by simpa using h3, by omega⟩
theorem lt_down {a b : List Int} (ha : Okd 10 a) (hb : Okd 10 b) : ∀ i, vl 10 (a.drop i) < vl 10 (b.drop i) → vl 10 a < vl 10 b
  | 0, h => by simpa using h
  | i + 1, h => by
    have gx := ha.getD (by omega) i
    have gy := hb.getD (by omega) i
    refine lt_down ha hb i ?_
    rw [vl_drop 10 a i, vl_drop 10 b i]
    omega
theorem cmp_loop {a b : List Int} (ha : Okd 10 a) (hb : Okd 10 b) :
    ∀ (n k : Nat), n ≤ 1000001 → vl 10 (a.drop n) = vl 10 (b.drop n) → n + 1 ≤ k → ontimeref01_compare.l0 k a b ((n : Int) - 1) = some (cmp3 (vl 10 a) (vl 10 b)) := by
  intro n
  induction n with
  | zero =>
    intro k _ h hk
    obtain ⟨k, rfl⟩ : ∃ j, k = j + 1 := ⟨k - 1, by omega⟩
    have e : vl 10 a = vl 10 b := by simpa using h
    simp only [ontimeref01_compare.l0]
    rw [if_neg (by omega), cmp3_eq e]
  | succ n ih =>
    intro k hn h hk
    obtain ⟨k, rfl⟩ : ∃ j, k = j + 1 := ⟨k - 1, by omega⟩
    have hi : ((n + 1 : Nat) : Int) - 1 = (n : Int) := by omega
    have w1 : wrap64 ((n : Int) - 1) = (n : Int) - 1 := w64 (by omega) (by omega)
    rw [hi]
    simp only [ontimeref01_compare.l0]
    rw [if_pos (by omega), digit_f, digit_f]
    simp only [Option.bind_some]
    by_cases hd : a.getD n 0 = b.getD n 0
    · rw [if_pos hd, w1]
      exact ih k (by omega) (by rw [vl_drop 10 a n, vl_drop 10 b n, hd, h]) (by omega)
    · rw [if_neg hd]
      by_cases hl : a.getD n 0 < b.getD n 0
      · rw [if_pos hl]
        have := lt_down ha hb n (by rw [vl_drop 10 a n, vl_drop 10 b n, h]; omega)
        unfold cmp3; rw [if_pos this]
      · rw [if_neg hl]
        have := lt_down hb ha n (by rw [vl_drop 10 a n, vl_drop 10 b n, h]; omega)
        unfold cmp3; rw [if_neg (by omega), if_pos this]
theorem cmp_f {a b : List Int} (ha : Okd 10 a) (hb : Okd 10 b) (hla : a.length ≤ 1000000) (hlb : b.length ≤ 1000000) : ∃ k, ontimeref01_compare.f k a b = some (cmp3 (vl 10 a) (vl 10 b)) := by
  have hm : mx (a.length : Int) (b.length : Int) = ((max a.length b.length : Nat) : Int) := by unfold mx; split <;> omega
  refine ⟨max a.length b.length + 1, ?_⟩
  unfold ontimeref01_compare.f
  rw [hm, w64 (by omega) (by omega)]
  exact cmp_loop ha hb (max a.length b.length) _ (by omega) (by rw [List.drop_of_length_le (by omega), List.drop_of_length_le (by omega)]) (Nat.le_refl _)
/-- One digit's sign. -/
theorem dig_str : ∀ d : Nat, d < 10 → (⟨#[48, 49, 50, 51, 52, 53, 54, 55, 56, 57]⟩ : ByteArray).extract d (d + 1) = strOfNums [48 + (d : Int)] := by decide
theorem strOfNums_append (a b : List Int) : strOfNums (a ++ b) = strOfNums a ++ strOfNums b := by
  unfold strOfNums
  rw [List.map_append]
  ext1
  simp
theorem strOfNums_size (a : List Int) : (strOfNums a).size = a.length := by unfold strOfNums; simp [ByteArray.size]
theorem text_loop {l : List Int} (hl : Okd 10 l) (hn : l.length ≤ 1000000) (sgn : Int) : ∀ (M i k : Nat), l.length - i ≤ M → i ≤ l.length → M + 1 ≤ k →
    ontimeref01_Text.l0 k (strOfNums (c48 (l.take i)).reverse) (i : Int) sgn l = some (strOfNums ((if sgn < 0 then [45] else []) ++ (c48 l).reverse)) := by
  have fin : ∀ (i k : Nat), i = l.length → ontimeref01_Text.l0 (k + 1) (strOfNums (c48 (l.take i)).reverse) (i : Int) sgn l = some (strOfNums ((if sgn < 0 then [45] else []) ++ (c48 l).reverse)) := by
    intro i k hi
    subst hi
    simp only [ontimeref01_Text.l0]
    rw [if_neg (by omega), List.take_length]
    by_cases hs : sgn < 0
    · rw [if_pos hs, if_pos hs, strOfNums_append, if_pos]
      · rfl
      · rw [strOfNums_size]; simp [c48]; omega
    · rw [if_neg hs, if_neg hs, List.nil_append]
  intro M
  induction M with
  | zero =>
    intro i k hM hi hk
    obtain ⟨k, rfl⟩ : ∃ j, k = j + 1 := ⟨k - 1, by omega⟩
    exact fin i k (by omega)
  | succ M ih =>
    intro i k hM hi hk
    obtain ⟨k, rfl⟩ : ∃ j, k = j + 1 := ⟨k - 1, by omega⟩
    by_cases hd : i < l.length
    · obtain ⟨g0, g1⟩ := hl.getD (by omega) i
      obtain ⟨d, hx⟩ := Int.eq_ofNat_of_zero_le g0
      rw [hx] at g0 g1
      have hr : rd l (i : Int) = (d : Int) := by unfold rd; rw [Int.toNat_natCast]; exact hx
      have w1 : wrap64 ((d : Int) + 1) = ((d + 1 : Nat) : Int) := by rw [w64 (by omega) (by omega)]; omega
      have w4 : wrap64 ((i : Int) + 1) = ((i + 1 : Nat) : Int) := by rw [w64 (by omega) (by omega)]; omega
      have hx2 : l[i] = (d : Int) := by rw [← hx]; simp [List.getD, hd]
      have e2 : strOfNums [48 + (d : Int)] ++ strOfNums (c48 (l.take i)).reverse = strOfNums (c48 (l.take (i + 1))).reverse := by
        rw [← strOfNums_append, List.take_succ_eq_append_getElem hd, hx2]
        simp [c48]
      simp only [ontimeref01_Text.l0]
      rw [if_pos (by omega), if_pos (by omega), hr, w1, if_pos (by omega), if_pos (by omega), if_pos (by omega)]
      rw [Int.toNat_natCast, Int.toNat_natCast, dig_str d (by omega), w4, e2, if_pos]
      · exact ih (i + 1) k (by omega) (by omega) (by omega)
      · rw [strOfNums_size, strOfNums_size]; simp [c48]; omega
    · exact fin i k (by omega)
theorem text_f (x : Int) (hn : (dg 10 x.natAbs).length ≤ 1000000) : ∃ k, ontimeref01_Text.f k (sg x) (dg 10 x.natAbs) = some (tx x) := by
  refine ⟨(dg 10 x.natAbs).length + 1, ?_⟩
  unfold ontimeref01_Text.f
  by_cases h0 : x = 0
  · subst h0; rw [if_pos (show sg 0 = 0 from rfl)]; rfl
  · have hs : sg x ≠ 0 := by
      unfold sg
      split
      · decide
      · first | decide | (rw [if_neg h0]; decide)
    rw [if_neg hs]
    have := text_loop (dg_ok 10 (by omega) x.natAbs) hn (sg x) (dg 10 x.natAbs).length 0 ((dg 10 x.natAbs).length + 1) (by omega) (by omega) (by omega)
    rw [List.take_zero] at this
    refine Eq.trans this ?_
    unfold tx txt
    rw [if_neg h0]
    have hc : sg x < 0 ↔ x < 0 := by unfold sg; split <;> (try split) <;> omega
    simp only [hc]

end Go.Proofs.Ytdkapdgbfejgdaa

/- The reference's numbers in memory: contracts of its small functions. -/
set_option linter.unusedVariables false
set_option linter.unusedSimpArgs false
namespace Go.Proofs.Ytdkapdgbfejgdaa
open Go.RowKit Go.Proofs.YtdkapdgbfejgdaaW.PrintWords Go.Proofs.YtdkapdgbfejgdaaW.PrintLast Go.Proofs.YtdkapdgbfejgdaaW.PrintMore
open Go.Proofs.Ytdkapdgbfejgdaa.P

/-- The decimal digits of a number's absolute value, the last one first. -/
def dl (x : Int) : List Int := dg 10 x.natAbs
def dn (x : Int) : Nat := (dl x).length
/-- A number's digits in memory. -/
def nw (A : Option Addr) (c : Nat) (x : Int) : Rw := ⟨.i64, A, c, dl x⟩
theorem dl_okd (x : Int) : Okd 10 (dl x) := dg_ok 10 (by omega) _
theorem dl_vl (x : Int) : vl 10 (dl x) = x.natAbs := dg_vl 10 (by omega) _
theorem dl_neg (x : Int) : dl (-x) = dl x := by unfold dl; rw [Int.natAbs_neg]
theorem dn_neg (x : Int) : dn (-x) = dn x := by unfold dn; rw [dl_neg]
/-- It returns a row of its own. -/
def RetF (w : World) (l : List Int) (e : Ending) (w' : World) : Prop :=
  ∃ A c, e = .returned (.slice A l.length c) ∧ (⟨.i64, A, c, l⟩ : Rw).at w' (fun k => w.heap.size ≤ k) ∧ Below w.heap.size w w'
/-- It returns the number x. -/
def RetNm (w : World) (ok : Nat → Prop) (x : Int) (e : Ending) (w' : World) : Prop :=
  ∃ A c, e = .returned (.agg #[.int .i64 (sg x), .slice A (dn x) c]) ∧ (nw A c x).at w' (fun k => ok k ∨ w.heap.size ≤ k) ∧ Below w.heap.size w w'
section
variable {A A' : Option Addr} {c c' n n' : Nat} {a b : List Int} {w : World} {ok : Nat → Prop}
theorem retF_of {k : Nat} {r : List Int} {f : Nat} {args : Array Value} (h : Calls Try.prog f args w fun e w' => ∃ v0_ : Value, e = .returned (v0_) ∧ Kd.R (Kd.int .i64) 3 w' w.heap.size (fun _ => True) v0_ r ∧ Below w.heap.size w w') : Calls Try.prog f args w (RetF w r) := by
  refine h.mono ?_
  rintro e w' ⟨v, rfl, hR, hb⟩
  have hR2 := Kd.R_mono (Kd.R_bound hR) (ok' := fun k => w.heap.size ≤ k) (fun k hk => hk.2.1)
  obtain ⟨A, c, rfl⟩ := Kd.R_slice hR2
  exact ⟨A, c, rfl, ⟨(Kd.R_reads' hR2).2.1, Kd.R_F hR2⟩, hb⟩
/-- ontimeref01.add -/
theorem addN (ha : Okd 10 a) (hb : Okd 10 b) (hla : a.length ≤ 1000000) (hlb : b.length ≤ 1000000) : ∃ r, Okd 10 r ∧ vl 10 r = vl 10 a + vl 10 b ∧ r.length ≤ max a.length b.length + 1 ∧
    ∀ (A A' : Option Addr) (c c' n n' : Nat) (w : World) (ok : Nat → Prop), a.length = n → b.length = n' → (⟨.i64, A, c, a⟩ : Rw).at w ok → (⟨.i64, A', c', b⟩ : Rw).at w ok → Calls Try.prog 88 #[.slice A n c, .slice A' n' c'] w (RetF w r) := by
  obtain ⟨r, k, h1, h2, h3, h4⟩ := add_f ha hb hla hlb
  refine ⟨r, h2, h3, h4, ?_⟩
  intro A A' c c' n n' w ok e e' hf hf'
  subst e e'
  exact retF_of (k := 0) (ontimeref01_add.calls k A c a A' c' b r w (Kd.F_now hf.2) hf.1 (Kd.F_now hf'.2) hf'.1 h1)
/-- ontimeref01.sub -/
theorem subN (ha : Okd 10 a) (hb : Okd 10 b) (hla : a.length ≤ 1000000) (h : vl 10 b ≤ vl 10 a) : ∃ r, Okd 10 r ∧ vl 10 r = vl 10 a - vl 10 b ∧ r.length = a.length ∧
    ∀ (A A' : Option Addr) (c c' n n' : Nat) (w : World) (ok : Nat → Prop), a.length = n → b.length = n' → (⟨.i64, A, c, a⟩ : Rw).at w ok → (⟨.i64, A', c', b⟩ : Rw).at w ok → Calls Try.prog 90 #[.slice A n c, .slice A' n' c'] w (RetF w r) := by
  obtain ⟨r, k, h1, h2, h3, h4⟩ := sub_f ha hb hla h
  refine ⟨r, h2, h3, h4, ?_⟩
  intro A A' c c' n n' w ok e e' hf hf'
  subst e e'
  exact retF_of (k := 0) (ontimeref01_sub.calls k A c a A' c' b r w (Kd.F_now hf.2) hf.1 (Kd.F_now hf'.2) hf'.1 h1)
/-- ontimeref01.compare -/
theorem compareN (ha : Okd 10 a) (hb : Okd 10 b) (hla : a.length ≤ 1000000) (hlb : b.length ≤ 1000000) (e : a.length = n) (e' : b.length = n') (hf : (⟨.i64, A, c, a⟩ : Rw).at w ok) (hf' : (⟨.i64, A', c', b⟩ : Rw).at w ok) (r : Int) (hr : cmp3 (vl 10 a) (vl 10 b) = r) :
    Calls Try.prog 89 #[.slice A n c, .slice A' n' c'] w (RetI64 r w) := by
  subst e e' hr
  obtain ⟨k, h1⟩ := cmp_f ha hb hla hlb
  exact (ontimeref01_compare.calls k A c a A' c' b _ w (Kd.F_now hf.2) hf.1 (Kd.F_now hf'.2) hf'.1 h1).mono (fun _ _ h => h)
/-- ontimeref01.digit -/
theorem digitN (i : Nat) (e : a.length = n) (hf : (⟨.i64, A, c, a⟩ : Rw).at w ok) (r : Int) (hr : a.getD i 0 = r) : Calls Try.prog 91 #[.slice A n c, .int .i64 (i : Int)] w (fun e w' => e = .returned (.int .i64 r) ∧ Below w.heap.size w w') := by
  subst e hr
  refine (ontimeref01_digit.calls A c a i _ w (Kd.F_now hf.2) hf.1 (digit_f a i)).mono ?_
  rintro e w' ⟨rfl, ⟨m, rfl⟩⟩
  exact ⟨rfl, pw_below_drewN (Below.refl _ _) m⟩
/-- ontimeref01.trim -/
theorem trimN (e : a.length = n) (hn : n ≤ 1000000) (hf : (⟨.i64, A, c, a⟩ : Rw).at w ok) (r : List Int) (hr : trimR a = r) : Calls Try.prog 92 #[.slice A n c] w (RetL w ok .i64 r) := by
  subst e hr
  refine (ontimeref01_trim.calls (a.length + 1) ok A c a _ w ⟨A, c, rfl, hf.1, hf.2⟩ (by unfold ontimeref01_trim.f; exact ref_trim _ a (by omega) (by omega))).mono ?_
  rintro e w' ⟨v, rfl, ⟨A', c', rfl, hc, hF⟩, hb⟩
  exact ⟨A', c', rfl, ⟨hc, hF⟩, hb⟩
/-- ontimeref01.number -/
theorem numberN (s : Int) (e : a.length = n) (hn : n ≤ 1000000) (ha : Okd 10 a) (hf : (⟨.i64, A, c, a⟩ : Rw).at w ok) (x : Int) (hs : (if vl 10 a = 0 then 0 else s) = sg x) (hx : (x.natAbs : Int) = vl 10 a) : Calls Try.prog 75 #[.int .i64 s, .slice A n c] w (RetNm w ok x) := by
  subst e
  refine (ontimeref01_number.calls (a.length + 1) s ok A c a (sg x) (dl x) w ⟨A, c, rfl, hf.1, hf.2⟩ ?_).mono ?_
  · rw [ref_number _ s a (by omega) (by omega) ha, hs, ← hx]; rfl
  · rintro e w' ⟨v, rfl, ⟨A', c', rfl, hc, hF⟩, hb⟩
    exact ⟨A', c', rfl, ⟨hc, hF⟩, hb⟩
/-- ontimeref01.Neg -/
theorem NegN {x : Int} (hf : (nw A c x).at w ok) (r : Int) (h : -x = r) : Calls Try.prog 57 #[.agg #[.int .i64 (sg x), .slice A (dn x) c]] w (RetNm w ok r) := by
  subst h
  refine (ontimeref01_Neg.calls (sg x) ok A c (dl x) (sg (-x)) (dl (-x)) w ⟨A, c, rfl, hf.1, hf.2⟩ ?_).mono ?_
  · unfold ontimeref01_Neg.f
    have e : sg (-x) = wrap64 (-(sg x)) := by unfold sg wrap64; repeat' split <;> omega
    rw [dl_neg, e]
  · rintro e w' ⟨v, rfl, ⟨A', c', rfl, hc, hF⟩, hb⟩
    exact ⟨A', c', rfl, ⟨hc, hF⟩, hb⟩
/-- ontimeref01.Text -/
theorem TextN {x : Int} (hn : dn x ≤ 1000000) (hf : (nw A c x).at w ok) (s : ByteArray) (h : tx x = s) : Calls Try.prog 55 #[.agg #[.int .i64 (sg x), .slice A (dn x) c]] w (RetT s w) := by
  subst h
  obtain ⟨k, h1⟩ := text_f x hn
  exact (ontimeref01_Text.calls k (sg x) A c (dl x) _ w (Kd.F_now hf.2) hf.1 h1).mono (fun _ _ h => h)
end

end Go.Proofs.Ytdkapdgbfejgdaa
