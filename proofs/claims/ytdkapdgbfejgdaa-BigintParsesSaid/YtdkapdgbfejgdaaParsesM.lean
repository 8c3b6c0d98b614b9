/- The walk of the law BigintParses: over every text it returns true. -/
import Derived.Test.YtdkapdgbfejgdaaAw
import Derived.Test.YtdkapdgbfejgdaaRefParse
import Derived.Test.YtdkapdgbfejgdaaTw
/- ontimeref01.Parse and bigint.Parse read the same texts as the same numbers. -/
set_option linter.unusedVariables false
set_option linter.unusedSimpArgs false
namespace Go.Proofs.Ytdkapdgbfejgdaa
open Go.RowKit Go.Proofs.YtdkapdgbfejgdaaW.PrintWords Go.Proofs.YtdkapdgbfejgdaaW.PrintLast Go.Proofs.YtdkapdgbfejgdaaW.PrintMore
open Go.Proofs.Ytdkapdgbfejgdaa.P

theorem bt_getD (s : ByteArray) (i : Nat) : bt s (i : Int) = (bytesOf s).getD i 0 := by
  rw [← rd_bytesOf]; unfold rd; rw [Int.toNat_natCast]
theorem cut_cases (s : ByteArray) : (cutB s = true ∧ 0 < s.size ∧ bt s 0 = 45 ∧ bytesOf (cutS s) = (bytesOf s).drop 1) ∨ (cutB s = false ∧ (s.size = 0 ∨ bt s 0 ≠ 45) ∧ cutS s = s) := by
  obtain ⟨⟨l⟩⟩ := s
  cases l with
  | nil => exact .inr ⟨rfl, .inl rfl, rfl⟩
  | cons c r =>
    by_cases h : c = 45
    · subst h
      refine .inl ⟨?_, ?_, ?_, ?_⟩
      · simp [cutB, Lib.hasPrefix]
      · simp [ByteArray.size]
      · rfl
      · simp [cutS, Lib.trimPrefix, Lib.hasPrefix, bytesOf]
    · have hpf : Lib.hasPrefix (c :: r) [45] = false := by
        have : ((45 : UInt8) == c) = false := beq_eq_false_iff_ne.mpr (fun e => h e.symm)
        show ((45 : UInt8) == c && List.isPrefixOf [] r) = false
        rw [this]; rfl
      refine .inr ⟨?_, .inr ?_, ?_⟩
      · exact hpf
      · intro h'
        apply h
        have h2 : ((c.toNat : Nat) : Int) = 45 := h'
        have h3 : c.toNat = 45 := by omega
        exact UInt8.toNat_inj.mp h3
      · simp [cutS, Lib.trimPrefix, hpf]
/-- Where the digits begin. -/
def frm (s : ByteArray) : Nat := if cutB s = true then 1 else 0
theorem frm_le (s : ByteArray) : frm s ≤ s.size := by
  unfold frm
  rcases cut_cases s with ⟨h, h1, -⟩ | ⟨h, -⟩ <;> rw [h] <;> simp <;> omega
theorem cut_size (s : ByteArray) : (cutS s).size = s.size - frm s := by
  unfold frm
  rcases cut_cases s with ⟨h, h1, h2, h3⟩ | ⟨h, h1, h2⟩
  · rw [h, if_pos rfl, ← bytesOf_length, h3, List.length_drop, bytesOf_length]
  · rw [h, if_neg (by simp), h2]; rfl
theorem cut_bt (s : ByteArray) (i : Nat) : bt (cutS s) (i : Int) = bt s ((frm s + i : Nat) : Int) := by
  unfold frm
  rcases cut_cases s with ⟨h, h1, h2, h3⟩ | ⟨h, h1, h2⟩
  · rw [h, if_pos rfl, bt_getD, h3, bt_getD]
    simp [List.getD, List.getElem?_drop, Nat.add_comm]
  · rw [h, if_neg (by simp), h2, Nat.zero_add]
theorem cut_pc (s : ByteArray) : ∀ k, pc (cutS s) 0 k = pc s (frm s) k
  | 0 => rfl
  | k + 1 => by rw [pc, pc, cut_pc s k, Nat.zero_add, cut_bt]
theorem cut_Dg (s : ByteArray) (k : Nat) : Dg (cutS s) 0 k ↔ Dg s (frm s) k := by
  constructor
  · intro h j h1 h2
    have := h (j - frm s) (by omega) (by omega)
    unfold Dig at this ⊢
    rw [cut_bt, show frm s + (j - frm s) = j by omega] at this
    exact this
  · intro h j h1 h2
    have := h (frm s + j) (by omega) (by omega)
    unfold Dig at this ⊢
    rw [cut_bt]
    exact this

/-- The digits from a on, the last one first. -/
def rl (s : ByteArray) (a : Nat) : Nat → List Int
  | 0 => []
  | n + 1 => (bt s ((a + n : Nat) : Int) - 48) :: rl s a n
theorem rl_vl (s : ByteArray) (a : Nat) : ∀ n, vl 10 (rl s a n) = pc s a n
  | 0 => rfl
  | n + 1 => by rw [rl, vl_cons, rl_vl s a n, pc]; omega
theorem rl_len (s : ByteArray) (a : Nat) : ∀ n, (rl s a n).length = n
  | 0 => rfl
  | n + 1 => by rw [rl, List.length_cons, rl_len s a n]
theorem rl_okd {s : ByteArray} {a : Nat} : ∀ {n : Nat}, Dg s a n → Okd 10 (rl s a n)
  | 0, _ => Okd.nil _
  | n + 1, h => by
    have h1 := h (a + n) (by omega) (by omega)
    unfold Dig at h1
    exact Okd.cons (by omega) (by omega) (rl_okd (fun j h2 h3 => h j h2 (by omega)))

theorem ref_trim : ∀ (k : Nat) (l : List Int), l.length < k → l.length ≤ 1000000000 → ontimeref01_trim.l0 k l = some (trimR l) := by
  intro k
  induction k with
  | zero => intro l h; omega
  | succ k ih =>
    intro l h hl
    rcases List.eq_nil_or_concat l with rfl | ⟨xs, x, rfl⟩
    · simp only [ontimeref01_trim.l0]
      rw [if_neg (by simp)]; rfl
    · rw [List.concat_eq_append] at h hl ⊢
      simp only [List.length_append, List.length_cons, List.length_nil] at h hl
      have hw : wrap64 (((xs ++ [x]).length : Int) - 1) = (xs.length : Int) := by unfold wrap64; simp; omega
      simp only [ontimeref01_trim.l0, hw]
      have hlen : ((xs ++ [x]).length : Int) = (xs.length : Int) + 1 := by simp
      rw [if_pos (by omega), if_pos (by omega), if_pos (by omega)]
      have hr : rd (xs ++ [x]) (xs.length : Int) = x := by unfold rd; rw [Int.toNat_natCast]; simp
      rw [hr]
      by_cases hx : x = 0
      · subst hx
        rw [if_pos rfl, if_pos (by omega), Int.toNat_natCast, List.take_left, ih xs (by omega) (by omega), trimR_snoc_zero]
      · rw [if_neg hx]
        rw [trimR_id _ (by intro y hy; simp at hy; omega)]
theorem ref_number (k : Nat) (sgn : Int) (l : List Int) (h : l.length < k) (hl : l.length ≤ 1000000000) (ho : Okd 10 l) :
    ontimeref01_number.f k sgn l = some (if vl 10 l = 0 then 0 else sgn, dg 10 (vl 10 l).toNat) := by
  unfold ontimeref01_number.f ontimeref01_trim.f
  have e : trimR l = dg 10 (vl 10 l).toNat := trimR_dg 10 (by omega) l ho
  rw [ref_trim k l h hl, e]
  simp only [Option.bind_some]
  have hv := vl_nonneg (by omega) ho
  by_cases h0 : vl 10 l = 0
  · rw [h0, if_pos rfl]; rfl
  · have hne : dg 10 (vl 10 l).toNat ≠ [] := fun e => by have := (dg_nil_iff 10 (by omega) _).mp e; omega
    rw [if_neg h0, if_neg (by have := List.length_pos_iff.mpr hne; omega)]
theorem ref_l0 (s : ByteArray) (sgn : Int) (a N : Nat) (hN : a + N = s.size) (hs : s.size ≤ 4096) : ∀ n, n ≤ N → ∀ (k : Nat) (acc : List Int), acc.length + n = N → acc ++ rl s a n = rl s a N → n + N + 2 < k → Dg s (a + n) (N - n) →
    (Dg s a N → ontimeref01_Parse.l0 k s sgn a acc (((a + n : Nat) : Int) - 1) = some (if pc s a N = 0 then 0 else sgn, dg 10 (pc s a N).toNat, true)) ∧ (¬ Dg s a N → ontimeref01_Parse.l0 k s sgn a acc (((a + n : Nat) : Int) - 1) = some (0, [], false)) := by
  intro n
  induction n with
  | zero =>
    intro _ k acc hl ha hk hd
    obtain ⟨k, rfl⟩ : ∃ j, k = j + 1 := ⟨k - 1, by omega⟩
    have hd' : Dg s a N := hd
    refine ⟨fun _ => ?_, fun h => absurd hd' h⟩
    rw [rl, List.append_nil] at ha
    simp only [ontimeref01_Parse.l0]
    rw [if_neg (by omega), ref_number k sgn acc (by omega) (by omega) (by rw [ha]; exact rl_okd hd'), ha, rl_vl]
    rfl
  | succ n ih =>
    intro hn k acc hl ha hk hd
    obtain ⟨k, rfl⟩ : ∃ j, k = j + 1 := ⟨k - 1, by omega⟩
    have hi : ((a + (n + 1) : Nat) : Int) - 1 = ((a + n : Nat) : Int) := by omega
    rw [hi]
    simp only [ontimeref01_Parse.l0]
    rw [if_pos (by omega), if_pos (by omega), if_pos (by omega)]
    by_cases c1 : bt s ((a + n : Nat) : Int) < 48
    · rw [if_pos c1]
      refine ⟨fun h => ?_, fun _ => rfl⟩
      have := h (a + n) (by omega) (by omega)
      unfold Dig at this
      omega
    · rw [if_neg c1]
      by_cases c2 : bt s ((a + n : Nat) : Int) > 57
      · rw [if_pos c2]
        refine ⟨fun h => ?_, fun _ => rfl⟩
        have := h (a + n) (by omega) (by omega)
        unfold Dig at this
        omega
      · rw [if_neg c2, if_pos (by omega)]
        have e1 : (bt s ((a + n : Nat) : Int) - 48) % 256 = bt s ((a + n : Nat) : Int) - 48 := by omega
        have e2 : wrap64 (((a + n : Nat) : Int) - 1) = ((a + n : Nat) : Int) - 1 := by unfold wrap64; omega
        rw [e1, e2]
        refine ih (by omega) k _ (by simp; omega) (by rw [List.append_assoc]; exact ha) (by omega) ?_
        intro j h1 h2
        by_cases hj : j = a + n
        · subst hj; exact ⟨by omega, by omega⟩
        · exact hd j (by omega) (by omega)

theorem toList_len (s : ByteArray) : s.toList.length = s.size := by rw [toList_eq, Array.length_toList]; rfl
theorem toList_one (s : ByteArray) (h : s.size = 1) (hb : bt s ((0 : Nat) : Int) = 48) : s.toList = [48] := by
  rw [toList_eq]
  obtain ⟨⟨l⟩⟩ := s
  match l, h with
  | [c], _ =>
    have h2 : ((c.toNat : Nat) : Int) = 48 := hb
    have h3 : c.toNat = 48 := by omega
    have : c = 48 := UInt8.toNat_inj.mp h3
    rw [this]
theorem pr_eq (s : ByteArray) (hs : s.size ≤ 4096) (x e : Int) (h : pr s = (x, e)) :
    (s.size ≠ frm s ∧ ¬ (bt s (frm s : Int) = 48 ∧ 1 < s.size) ∧ Dg s (frm s) (s.size - frm s) ∧ e = 0 ∧ x = if cutB s = true then -(pc s (frm s) (s.size - frm s)) else pc s (frm s) (s.size - frm s)) ∨
    ((s.size = frm s ∨ (bt s (frm s : Int) = 48 ∧ 1 < s.size) ∨ ¬ Dg s (frm s) (s.size - frm s)) ∧ e = 3 ∧ x = 0) := by
  have hle := frm_le s
  have hf : frm s ≤ 1 := by unfold frm; split <;> omega
  have c0 : (cutS s).toList = [] ↔ s.size = frm s := by
    have h1 : (cutS s).toList = [] ↔ (cutS s).size = 0 := by
      constructor
      · intro h; by_cases h0 : (cutS s).size = 0
        · exact h0
        · have := toList_len (cutS s); rw [h] at this; simp at this; omega
      · intro h; by_cases h0 : (cutS s).toList = []
        · exact h0
        · have := size_pos_of _ h0; omega
    rw [h1, cut_size]; omega
  have c1 : bt (cutS s) 0 = bt s (frm s : Int) := cut_bt s 0
  unfold pr at h
  rw [if_neg (by omega)] at h
  rw [cut_size, cut_Dg, cut_pc, c1] at h
  have c2 : s.size ≠ frm s → ((bt s (frm s : Int) = 48 ∧ s.toList ≠ [48]) ↔ (bt s (frm s : Int) = 48 ∧ 1 < s.size)) := by
    intro hne
    constructor
    · rintro ⟨h1, h2⟩
      refine ⟨h1, ?_⟩
      by_cases h3 : 1 < s.size
      · exact h3
      · exfalso
        have h4 : s.size = 1 := by omega
        have h5 : frm s = 0 := by omega
        rw [h5] at h1
        exact h2 (toList_one s h4 h1)
    · rintro ⟨h1, h2⟩
      refine ⟨h1, fun h3 => ?_⟩
      have := toList_len s
      rw [h3] at this
      simp at this
      omega
  by_cases h0 : s.size = frm s
  · rw [if_pos (.inl (c0.mpr h0))] at h
    injection h with h1 h2
    exact .inr ⟨.inl h0, h2.symm, h1.symm⟩
  · by_cases h3 : bt s (frm s : Int) = 48 ∧ 1 < s.size
    · rw [if_pos (.inr (.inl ((c2 h0).mpr h3)))] at h
      injection h with h1 h2
      exact .inr ⟨.inr (.inl h3), h2.symm, h1.symm⟩
    · by_cases h4 : Dg s (frm s) (s.size - frm s)
      · rw [if_neg (by
          rintro (h5 | h5 | h5)
          · exact h0 (c0.mp h5)
          · exact h3 ((c2 h0).mp h5)
          · exact h5 h4)] at h
        injection h with h1 h2
        exact .inl ⟨h0, h3, h4, h2.symm, h1.symm⟩
      · rw [if_pos (.inr (.inr h4))] at h
        injection h with h1 h2
        exact .inr ⟨.inr (.inr h4), h2.symm, h1.symm⟩

end Go.Proofs.Ytdkapdgbfejgdaa

/- ontimeref01.Parse's contract in numbers; and a text that is a number's is the number's text. -/
set_option linter.unusedVariables false
set_option linter.unusedSimpArgs false
namespace Go.Proofs.Ytdkapdgbfejgdaa
open Go.RowKit Go.Proofs.YtdkapdgbfejgdaaW.PrintWords Go.Proofs.YtdkapdgbfejgdaaW.PrintLast Go.Proofs.YtdkapdgbfejgdaaW.PrintMore
open Go.Proofs.Ytdkapdgbfejgdaa.P

theorem ref_f (s : ByteArray) (hs : s.size ≤ 4096) (x e : Int) (h : pr s = (x, e)) :
    ∃ k, ontimeref01_Parse.f k s = some (if e = 0 then (sg x, dg 10 x.natAbs, true) else (0, [], false)) := by
  have hle := frm_le s
  have hj : ∀ k : Nat, ontimeref01_Parse.f (k + 1) s = ontimeref01_Parse.j1 k s (if cutB s = true then -1 else 1) (frm s) := by
    intro k
    unfold ontimeref01_Parse.f frm
    rcases cut_cases s with ⟨h1, h2, h3, -⟩ | ⟨h1, h2, h3⟩
    · rw [if_pos (by omega), if_pos (by omega), h1, h3]
      simp only [ontimeref01_Parse.j0]
      rfl
    · rw [h1]
      simp only [ontimeref01_Parse.j0]
      rcases h2 with h2 | h2
      · rw [if_neg (by omega)]; rfl
      · by_cases h4 : (s.size : Int) > 0
        · rw [if_pos h4, if_pos (by omega)]
          have : (bt s 0 == 45) = false := beq_eq_false_iff_ne.mpr h2
          rw [this]; rfl
        · rw [if_neg h4]; rfl
  refine ⟨2 * s.size + 12, ?_⟩
  rw [show 2 * s.size + 12 = 2 * s.size + 11 + 1 by omega, hj]
  generalize hsg : (if cutB s = true then (-1 : Int) else 1) = sgn
  have hl := ref_l0 s sgn (frm s) (s.size - frm s) (by omega) hs (s.size - frm s) (Nat.le_refl _) (2 * s.size + 9) [] (by simp) rfl (by omega) (fun j h1 h2 => by omega)
  have hw : wrap64 ((s.size : Int) - 1) = ((frm s + (s.size - frm s) : Nat) : Int) - 1 := by unfold wrap64; omega
  rw [← hw] at hl
  simp only [ontimeref01_Parse.j1]
  rcases pr_eq s hs x e h with ⟨h0, h1, h2, rfl, hx⟩ | ⟨h0, rfl, rfl⟩
  · rw [if_neg (by omega), if_pos (by omega), if_pos (by omega), if_pos rfl]
    have hb := pc_bound h2
    have fin : ontimeref01_Parse.l0 (2 * s.size + 9) s sgn (frm s) [] (wrap64 ((s.size : Int) - 1)) = some (sg x, dg 10 x.natAbs, true) := by
      rw [hl.1 h2]
      have e1 : x.natAbs = (pc s (frm s) (s.size - frm s)).toNat := by rw [hx]; split <;> omega
      have e2 : (if pc s (frm s) (s.size - frm s) = 0 then 0 else sgn) = sg x := by
        rw [← hsg, hx]
        unfold sg
        split
        · next h5 => rw [h5]; split <;> rfl
        · split <;> repeat' split <;> omega
      rw [e1, e2]
    by_cases c : bt s (frm s : Int) = 48
    · rw [if_pos c]
      have : decide ((s.size : Int) > 1) = false := decide_eq_false (by intro h5; exact h1 ⟨c, by omega⟩)
      rw [this]
      simp only [ontimeref01_Parse.j2]
      rw [if_neg (by simp)]
      exact fin
    · rw [if_neg c]
      simp only [ontimeref01_Parse.j2]
      rw [if_neg (by simp)]
      exact fin
  · have hrhs : (if (3 : Int) = 0 then (sg 0, dg 10 (Int.natAbs 0), true) else (0, [], false)) = ((0 : Int), ([] : List Int), false) := if_neg (by omega)
    rw [hrhs]
    by_cases c0 : s.size = frm s
    · rw [if_pos (by omega)]
      simp only [ontimeref01_Parse.j2]
      rfl
    · rw [if_neg (by omega), if_pos (by omega), if_pos (by omega)]
      by_cases c : bt s (frm s : Int) = 48 ∧ 1 < s.size
      · rw [if_pos c.1]
        have : decide ((s.size : Int) > 1) = true := decide_eq_true (by have := c.2; omega)
        rw [this]
        simp only [ontimeref01_Parse.j2]
        rfl
      · have h5 : ¬ Dg s (frm s) (s.size - frm s) := by
          rcases h0 with h0 | h0 | h0
          · exact absurd h0 c0
          · exact absurd h0 c
          · exact h0
        have fin := hl.2 h5
        by_cases c1 : bt s (frm s : Int) = 48
        · rw [if_pos c1]
          have : decide ((s.size : Int) > 1) = false := decide_eq_false (by intro h6; exact c ⟨c1, by omega⟩)
          rw [this]
          simp only [ontimeref01_Parse.j2]
          rw [if_neg (by simp)]
          exact fin
        · rw [if_neg c1]
          simp only [ontimeref01_Parse.j2]
          rw [if_neg (by simp)]
          exact fin

/-- It returns a number of the reference, and whether there is one. -/
def RetR (w : World) (sgn : Int) (l : List Int) (b : Bool) (e : Ending) (w' : World) : Prop :=
  ∃ A c, e = .returned (.tuple #[.agg #[.int .i64 sgn, .slice A l.length c], .bool b]) ∧ (⟨.i64, A, c, l⟩ : Rw).at w' (fun k => w.heap.size ≤ k) ∧ Below w.heap.size w w'
theorem RefParse_ok (s : ByteArray) (hs : s.size ≤ 4096) (x : Int) (h : pr s = (x, 0)) (w : World) : Calls Try.prog 24 #[.string s] w (RetR w (sg x) (dg 10 x.natAbs) true) := by
  obtain ⟨k, hk⟩ := ref_f s hs x 0 h
  rw [if_pos rfl] at hk
  refine (ontimeref01_Parse.calls k s _ _ _ w hk).mono ?_
  rintro e w' ⟨v, rfl, ⟨A, c, rfl, h1, h2⟩, hb⟩
  exact ⟨A, c, rfl, ⟨h1, h2⟩, hb⟩
theorem RefParse_no (s : ByteArray) (hs : s.size ≤ 4096) (x e : Int) (h : pr s = (x, e)) (he : e ≠ 0) (w : World) : Calls Try.prog 24 #[.string s] w (RetR w 0 [] false) := by
  obtain ⟨k, hk⟩ := ref_f s hs x e h
  rw [if_neg he] at hk
  refine (ontimeref01_Parse.calls k s _ _ _ w hk).mono ?_
  rintro e w' ⟨v, rfl, ⟨A, c, rfl, h1, h2⟩, hb⟩
  exact ⟨A, c, rfl, ⟨h1, h2⟩, hb⟩

theorem rl_noz {s : ByteArray} {a : Nat} : ∀ {n : Nat}, bt s (a : Int) ≠ 48 → NoZ (rl s a n)
  | 0, _ => by intro x hx; simp [rl] at hx
  | 1, h => by
    intro x hx
    simp [rl] at hx
    omega
  | n + 2, h => by
    intro x hx
    rw [rl, List.getLast?_cons_of_ne_nil (by simp [rl])] at hx
    exact rl_noz (n := n + 1) h x hx
theorem rl_c48 (s : ByteArray) (a : Nat) : ∀ n, (c48 (rl s a n)).reverse = (List.range n).map (fun i => bt s ((a + i : Nat) : Int))
  | 0 => rfl
  | n + 1 => by
    rw [rl, c48, List.map_cons, List.reverse_cons, List.range_succ, List.map_append]
    have := rl_c48 s a n
    unfold c48 at this
    rw [this]
    simp
    omega
theorem bytes_range (s : ByteArray) : bytesOf s = (List.range s.size).map (fun i : Nat => bt s (i : Int)) := by
  apply List.ext_getElem
  · rw [bytesOf_length]; simp
  · intro i h1 h2
    simp [bt_getD, List.getD, List.getElem?_eq_getElem h1]
theorem strOfNums_bytes (s : ByteArray) : strOfNums (bytesOf s) = s := by
  obtain ⟨⟨l⟩⟩ := s
  have e : ((fun n : Int => UInt8.ofNat n.toNat) ∘ fun b : UInt8 => (b.toNat : Int)) = id := by
    funext b
    simp [UInt8.ofNat_toNat]
  simp [strOfNums, bytesOf]
  rw [e, List.map_id]
/-- A text that is a number's is the number's text. -/
theorem tx_pr (s : ByteArray) (hs : s.size ≤ 4096) (x : Int) (h : pr s = (x, 0)) : tx x = s := by
  have hle := frm_le s
  have main : txt x = bytesOf s := by
    rcases pr_eq s hs x 0 h with ⟨h0, h1, h2, -, hx⟩ | ⟨-, h1, -⟩
    · have hb := pc_bound h2
      obtain ⟨N, hN⟩ : ∃ N, s.size - frm s = N := ⟨_, rfl⟩
      rw [hN] at h2 hx hb
      have e1 : x.natAbs = (pc s (frm s) N).toNat := by rw [hx]; split <;> omega
      by_cases hz : bt s (frm s : Int) = 48
      · have h3 : s.size = 1 := by
          by_cases h4 : 1 < s.size
          · exact absurd ⟨hz, h4⟩ h1
          · omega
        have h4 : frm s = 0 := by omega
        have hN1 : N = 1 := by omega
        subst hN1
        rw [h4] at hx hz
        have h5 : pc s 0 1 = 0 := by
          show 10 * 0 + (bt s ((0 + 0 : Nat) : Int) - 48) = 0
          have : bt s ((0 + 0 : Nat) : Int) = 48 := hz
          omega
        rw [h5] at hx
        have hx0 : x = 0 := by rw [hx]; split <;> rfl
        rw [hx0, bytes_range, h3]
        show [48] = [bt s ((0 : Nat) : Int)]
        rw [hz]
      · have hd : dg 10 x.natAbs = rl s (frm s) N := by
          rw [e1, ← rl_vl]
          exact dg_of_vl 10 (by omega) _ (rl_okd h2) (rl_noz hz)
        have hx0 : x ≠ 0 := by
          intro hx0
          have h6 : rl s (frm s) N = [] := by rw [← hd, hx0]; rfl
          have := rl_len s (frm s) N
          rw [h6] at this
          simp at this
          omega
        unfold txt
        rw [if_neg hx0, hd, rl_c48, bytes_range]
        rcases cut_cases s with ⟨g1, g2, g3, -⟩ | ⟨g1, g2, g3⟩
        · have hf1 : frm s = 1 := by unfold frm; rw [g1]; rfl
          rw [g1, if_pos rfl] at hx
          rw [hf1] at hN ⊢
          have hneg : x < 0 := by omega
          rw [if_pos hneg]
          have hM : s.size = N + 1 := by omega
          rw [hM, List.range_succ_eq_map, List.map_cons, List.map_map]
          show 45 :: _ = _
          have g4 : bt s ((0 : Nat) : Int) = 45 := g3
          rw [g4]
          congr 1
          apply List.map_congr_left
          intro i _
          simp only [Function.comp]
          congr 1
          omega
        · have hf1 : frm s = 0 := by unfold frm; rw [g1]; rfl
          rw [g1, if_neg (by simp)] at hx
          rw [hf1] at hN ⊢
          have hneg : ¬ x < 0 := by omega
          rw [if_neg hneg, List.nil_append]
          have hM : N = s.size := by omega
          rw [hM]
          apply List.map_congr_left
          intro i _
          rw [Nat.zero_add]
    · omega
  unfold tx
  rw [main, strOfNums_bytes]

end Go.Proofs.Ytdkapdgbfejgdaa

/- The walk of the law BigintParses: over every text it returns true. -/
namespace Go.Proofs.Ytdkapdgbfejgdaa
open Go.RowKit Go.Proofs.YtdkapdgbfejgdaaW.PrintWords Go.Proofs.YtdkapdgbfejgdaaW.PrintLast Go.Proofs.YtdkapdgbfejgdaaW.PrintMore
set_option linter.unusedSimpArgs false
set_option linter.unusedVariables false

set_option maxHeartbeats 8000000 in
set_option maxRecDepth 100000 in
theorem parses_long (s : ByteArray) (w : World) (hs : 80 < s.size) : Calls Try.prog 3 #[.string s] w (fun e W' => e = .returned (.bool true) ∧ Below w.heap.size w W') := by
  have d1 : decide (80 < (s.size : Int)) = true := decide_eq_true (by omega)
  have d2 : decide (80 < s.size) = true := decide_eq_true (by omega)
  have hu25 := Try.underlying25
  have H := Sit.start w (fun _ => False)
  go_enter Try.func3, Try.ntmps3
  have st2 := trivial
  go_wp2_with (first
    | (clear st2; go_at_call 22; (with_reducible refine (awake_ok _).mono ?_); rintro e wA ⟨rfl, hb⟩; replace H := H.call hb; clear hb))
  go_ret
  exact ⟨rfl, H.below⟩

set_option maxHeartbeats 8000000 in
set_option maxRecDepth 100000 in
theorem parses_ok (s : ByteArray) (w : World) (hs : s.size ≤ 80) (x sgn : Int) (l : List Int) (bx : Aside0 (ln x ≤ 10)) (hy : Aside0 (pr s = (x, 0))) (hR : Aside0 (∀ w, Calls Try.prog 24 #[.string s] w (RetR w sgn l true))) (hT : Aside0 (tx x = s)) (t1 : (s.toList == s.toList) = true) : Calls Try.prog 3 #[.string s] w (fun e W' => e = .returned (.bool true) ∧ Below w.heap.size w W') := by
  have d1 : decide (80 < (s.size : Int)) = false := decide_eq_false (by omega)
  have d2 : decide (80 < s.size) = false := decide_eq_false (by omega)
  have hu25 := Try.underlying25
  have H := Sit.start w (fun _ => False)
  have hu31 := Try.underlying31
  go_enter Try.func3, Try.ntmps3
  have st2 := trivial
  have st6 := trivial
  have st8 := trivial
  go_upto_region 6 with (first
    | (clear st2; go_at_call 22; (with_reducible refine (awake_ok _).mono ?_); rintro e wA ⟨rfl, hb⟩; replace H := H.call hb; clear hb)
    | (clear st6; go_at_call 23; (with_reducible refine (ParseQ s _ x 0 hy.out).mono ?_); rintro e w3 ⟨A4, c5, rfl, hr, hb⟩; replace H := H.got (fresh_row hr) hb; clear hr hb)
    | (clear st8; (with_reducible refine gate_dst (N := 3) rfl ?_); refine box_event ?hg (N := 3) ?hd (cs := #[.bool false, .slice none 0 0]) (t := 25) ?hr ?_; (case hd => rfl); (case hg => rfl); (case hr => first | (go_simp; done) | (go_simp; rfl)); intro gx hg w7 hbox hb; replace H := H.newbox hg hbox hb; clear hg hbox hb; have kgx_0 : w7.cell? ⟨gx, 0, none⟩ = some (.bool false) := H.cell m0 0; have zgx_0 := H.frozen (g := gx) m0 0; have kgx_1 : w7.cell? ⟨gx, 1, none⟩ = some (.slice none 0 0) := H.cell m0 1; have zgx_1 := H.frozen (g := gx) m0 1))
  (try simp only [Act.put, List.setIfInBounds_toArray, List.set_cons_zero, List.set_cons_succ])
  replace H := ((H.setn [] 0 (.bool (ng x)) rfl).setn [] 1 (.slice A4 (ln x) c5) rfl)
  clear kgx_0 zgx_0 kgx_1 zgx_1
  generalize ((w7.setCell ⟨gx, 0, none⟩ (.bool (ng x))).setCell ⟨gx, 1, none⟩ (.slice A4 (ln x) c5)) = w9 at H ⊢
  have kgx_0 : w9.cell? ⟨gx, 0, none⟩ = some (.bool (ng x)) := H.cell m0 0
  have zgx_0 := H.frozen (g := gx) m0 0
  have kgx_1 : w9.cell? ⟨gx, 1, none⟩ = some (.slice A4 (ln x) c5) := H.cell m0 1
  have zgx_1 := H.frozen (g := gx) m0 1
  have st11 := trivial
  have st13 := trivial
  go_upto_region 7 with (first
    | (clear st11; go_at_call 24; (with_reducible refine (hR.out _).mono ?_); rintro e wR ⟨An, cn, rfl, hr, hb⟩; replace H := H.got (fresh_row hr) hb; clear hr hb; clear kgx_0 zgx_0 kgx_1 zgx_1; have kgx_0 : wR.cell? ⟨gx, 0, none⟩ = some (.bool (ng x)) := H.cell m0 0; have zgx_0 := H.frozen (g := gx) m0 0; have kgx_1 : wR.cell? ⟨gx, 1, none⟩ = some (.slice A4 (ln x) c5) := H.cell m0 1; have zgx_1 := H.frozen (g := gx) m0 1)
    | (clear st13; (with_reducible refine gate_dst (N := 5) rfl ?_); refine box_event ?hg (N := 5) ?hd (cs := #[.int .i64 0, .slice none 0 0]) (t := 31) ?hr ?_; (case hd => rfl); (case hg => rfl); (case hr => first | (go_simp; done) | (go_simp; rfl)); intro gn hg w12 hbox hb; replace H := H.newbox hg hbox hb; clear hg hbox hb; clear kgx_0 zgx_0 kgx_1 zgx_1; have kgn_0 : w12.cell? ⟨gn, 0, none⟩ = some (.int .i64 0) := H.cell m0 0; have zgn_0 := H.frozen (g := gn) m0 0; have kgn_1 : w12.cell? ⟨gn, 1, none⟩ = some (.slice none 0 0) := H.cell m0 1; have zgn_1 := H.frozen (g := gn) m0 1; have kgx_0 : w12.cell? ⟨gx, 0, none⟩ = some (.bool (ng x)) := H.cell m1 0; have zgx_0 := H.frozen (g := gx) m1 0; have kgx_1 : w12.cell? ⟨gx, 1, none⟩ = some (.slice A4 (ln x) c5) := H.cell m1 1; have zgx_1 := H.frozen (g := gx) m1 1; have ne_gn_gx := H.ne (g := gn) (g' := gx) 0 1 rfl rfl (by decide); have ne_gx_gn := ne_gn_gx.symm))
  (try simp only [Act.put, List.setIfInBounds_toArray, List.set_cons_zero, List.set_cons_succ])
  replace H := ((H.setn [] 0 (.int .i64 sgn) rfl).setn [] 1 (.slice An l.length cn) rfl)
  clear kgn_0 zgn_0 kgn_1 zgn_1 kgx_0 zgx_0 kgx_1 zgx_1
  generalize ((w12.setCell ⟨gn, 0, none⟩ (.int .i64 sgn)).setCell ⟨gn, 1, none⟩ (.slice An l.length cn)) = w14 at H ⊢
  have kgn_0 : w14.cell? ⟨gn, 0, none⟩ = some (.int .i64 sgn) := H.cell m0 0
  have zgn_0 := H.frozen (g := gn) m0 0
  have kgn_1 : w14.cell? ⟨gn, 1, none⟩ = some (.slice An l.length cn) := H.cell m0 1
  have zgn_1 := H.frozen (g := gn) m0 1
  have kgx_0 : w14.cell? ⟨gx, 0, none⟩ = some (.bool (ng x)) := H.cell m1 0
  have zgx_0 := H.frozen (g := gx) m1 0
  have kgx_1 : w14.cell? ⟨gx, 1, none⟩ = some (.slice A4 (ln x) c5) := H.cell m1 1
  have zgx_1 := H.frozen (g := gx) m1 1
  have st16 := trivial
  go_wp2_with (first
    | (clear st16; go_at_call 26; (with_reducible refine (TextQ (H.row _ m1) (lim bx.out (by decide)) s hT.out).mono ?_); rintro e w15 ⟨rfl, hb⟩; replace H := H.call hb; clear hb; clear kgn_0 zgn_0 kgn_1 zgn_1 kgx_0 zgx_0 kgx_1 zgx_1; have kgn_0 : w15.cell? ⟨gn, 0, none⟩ = some (.int .i64 sgn) := H.cell m0 0; have zgn_0 := H.frozen (g := gn) m0 0; have kgn_1 : w15.cell? ⟨gn, 1, none⟩ = some (.slice An l.length cn) := H.cell m0 1; have zgn_1 := H.frozen (g := gn) m0 1; have kgx_0 : w15.cell? ⟨gx, 0, none⟩ = some (.bool (ng x)) := H.cell m1 0; have zgx_0 := H.frozen (g := gx) m1 0; have kgx_1 : w15.cell? ⟨gx, 1, none⟩ = some (.slice A4 (ln x) c5) := H.cell m1 1; have zgx_1 := H.frozen (g := gx) m1 1))
  go_ret
  exact ⟨rfl, H.below⟩

set_option maxHeartbeats 8000000 in
set_option maxRecDepth 100000 in
theorem parses_no (s : ByteArray) (w : World) (hs : s.size ≤ 80) (x sgn : Int) (l : List Int) (bx : Aside0 (ln x ≤ 10)) (e : Int) (he : (e == 3) = true) (hy : Aside0 (pr s = (x, e))) (hR : Aside0 (∀ w, Calls Try.prog 24 #[.string s] w (RetR w sgn l false))) (hS : Aside0 (sg x = 0)) (hT : Aside0 (tx x = ⟨#[48]⟩)) : Calls Try.prog 3 #[.string s] w (fun e W' => e = .returned (.bool true) ∧ Below w.heap.size w W') := by
  have d1 : decide (80 < (s.size : Int)) = false := decide_eq_false (by omega)
  have d2 : decide (80 < s.size) = false := decide_eq_false (by omega)
  have hu25 := Try.underlying25
  have H := Sit.start w (fun _ => False)
  have hu31 := Try.underlying31
  go_enter Try.func3, Try.ntmps3
  have st2 := trivial
  have st6 := trivial
  have st8 := trivial
  go_upto_region 6 with (first
    | (clear st2; go_at_call 22; (with_reducible refine (awake_ok _).mono ?_); rintro e wA ⟨rfl, hb⟩; replace H := H.call hb; clear hb)
    | (clear st6; go_at_call 23; (with_reducible refine (ParseQ s _ x e hy.out).mono ?_); rintro e w3 ⟨A4, c5, rfl, hr, hb⟩; replace H := H.got (fresh_row hr) hb; clear hr hb)
    | (clear st8; (with_reducible refine gate_dst (N := 3) rfl ?_); refine box_event ?hg (N := 3) ?hd (cs := #[.bool false, .slice none 0 0]) (t := 25) ?hr ?_; (case hd => rfl); (case hg => rfl); (case hr => first | (go_simp; done) | (go_simp; rfl)); intro gx hg w7 hbox hb; replace H := H.newbox hg hbox hb; clear hg hbox hb; have kgx_0 : w7.cell? ⟨gx, 0, none⟩ = some (.bool false) := H.cell m0 0; have zgx_0 := H.frozen (g := gx) m0 0; have kgx_1 : w7.cell? ⟨gx, 1, none⟩ = some (.slice none 0 0) := H.cell m0 1; have zgx_1 := H.frozen (g := gx) m0 1))
  (try simp only [Act.put, List.setIfInBounds_toArray, List.set_cons_zero, List.set_cons_succ])
  replace H := ((H.setn [] 0 (.bool (ng x)) rfl).setn [] 1 (.slice A4 (ln x) c5) rfl)
  clear kgx_0 zgx_0 kgx_1 zgx_1
  generalize ((w7.setCell ⟨gx, 0, none⟩ (.bool (ng x))).setCell ⟨gx, 1, none⟩ (.slice A4 (ln x) c5)) = w9 at H ⊢
  have kgx_0 : w9.cell? ⟨gx, 0, none⟩ = some (.bool (ng x)) := H.cell m0 0
  have zgx_0 := H.frozen (g := gx) m0 0
  have kgx_1 : w9.cell? ⟨gx, 1, none⟩ = some (.slice A4 (ln x) c5) := H.cell m0 1
  have zgx_1 := H.frozen (g := gx) m0 1
  have st11 := trivial
  have st13 := trivial
  go_upto_region 7 with (first
    | (clear st11; go_at_call 24; (with_reducible refine (hR.out _).mono ?_); rintro e wR ⟨An, cn, rfl, hr, hb⟩; replace H := H.got (fresh_row hr) hb; clear hr hb; clear kgx_0 zgx_0 kgx_1 zgx_1; have kgx_0 : wR.cell? ⟨gx, 0, none⟩ = some (.bool (ng x)) := H.cell m0 0; have zgx_0 := H.frozen (g := gx) m0 0; have kgx_1 : wR.cell? ⟨gx, 1, none⟩ = some (.slice A4 (ln x) c5) := H.cell m0 1; have zgx_1 := H.frozen (g := gx) m0 1)
    | (clear st13; (with_reducible refine gate_dst (N := 5) rfl ?_); refine box_event ?hg (N := 5) ?hd (cs := #[.int .i64 0, .slice none 0 0]) (t := 31) ?hr ?_; (case hd => rfl); (case hg => rfl); (case hr => first | (go_simp; done) | (go_simp; rfl)); intro gn hg w12 hbox hb; replace H := H.newbox hg hbox hb; clear hg hbox hb; clear kgx_0 zgx_0 kgx_1 zgx_1; have kgn_0 : w12.cell? ⟨gn, 0, none⟩ = some (.int .i64 0) := H.cell m0 0; have zgn_0 := H.frozen (g := gn) m0 0; have kgn_1 : w12.cell? ⟨gn, 1, none⟩ = some (.slice none 0 0) := H.cell m0 1; have zgn_1 := H.frozen (g := gn) m0 1; have kgx_0 : w12.cell? ⟨gx, 0, none⟩ = some (.bool (ng x)) := H.cell m1 0; have zgx_0 := H.frozen (g := gx) m1 0; have kgx_1 : w12.cell? ⟨gx, 1, none⟩ = some (.slice A4 (ln x) c5) := H.cell m1 1; have zgx_1 := H.frozen (g := gx) m1 1; have ne_gn_gx := H.ne (g := gn) (g' := gx) 0 1 rfl rfl (by decide); have ne_gx_gn := ne_gn_gx.symm))
  (try simp only [Act.put, List.setIfInBounds_toArray, List.set_cons_zero, List.set_cons_succ])
  replace H := ((H.setn [] 0 (.int .i64 sgn) rfl).setn [] 1 (.slice An l.length cn) rfl)
  clear kgn_0 zgn_0 kgn_1 zgn_1 kgx_0 zgx_0 kgx_1 zgx_1
  generalize ((w12.setCell ⟨gn, 0, none⟩ (.int .i64 sgn)).setCell ⟨gn, 1, none⟩ (.slice An l.length cn)) = w14 at H ⊢
  have kgn_0 : w14.cell? ⟨gn, 0, none⟩ = some (.int .i64 sgn) := H.cell m0 0
  have zgn_0 := H.frozen (g := gn) m0 0
  have kgn_1 : w14.cell? ⟨gn, 1, none⟩ = some (.slice An l.length cn) := H.cell m0 1
  have zgn_1 := H.frozen (g := gn) m0 1
  have kgx_0 : w14.cell? ⟨gx, 0, none⟩ = some (.bool (ng x)) := H.cell m1 0
  have zgx_0 := H.frozen (g := gx) m1 0
  have kgx_1 : w14.cell? ⟨gx, 1, none⟩ = some (.slice A4 (ln x) c5) := H.cell m1 1
  have zgx_1 := H.frozen (g := gx) m1 1
  have st16 := trivial
  have st18 := trivial
  go_wp2_with (first
    | (clear st16; go_at_call 25; (with_reducible refine (SignQ _ _ _ (lim bx.out (by decide)) 0 hS.out).mono ?_); rintro e w15 ⟨rfl, hb⟩; replace H := H.call hb; clear hb; clear kgn_0 zgn_0 kgn_1 zgn_1 kgx_0 zgx_0 kgx_1 zgx_1; have kgn_0 : w15.cell? ⟨gn, 0, none⟩ = some (.int .i64 sgn) := H.cell m0 0; have zgn_0 := H.frozen (g := gn) m0 0; have kgn_1 : w15.cell? ⟨gn, 1, none⟩ = some (.slice An l.length cn) := H.cell m0 1; have zgn_1 := H.frozen (g := gn) m0 1; have kgx_0 : w15.cell? ⟨gx, 0, none⟩ = some (.bool (ng x)) := H.cell m1 0; have zgx_0 := H.frozen (g := gx) m1 0; have kgx_1 : w15.cell? ⟨gx, 1, none⟩ = some (.slice A4 (ln x) c5) := H.cell m1 1; have zgx_1 := H.frozen (g := gx) m1 1)
    | (clear st18; go_at_call 26; (with_reducible refine (TextQ (H.row _ m1) (lim bx.out (by decide)) _ hT.out).mono ?_); rintro e w17 ⟨rfl, hb⟩; replace H := H.call hb; clear hb; clear kgn_0 zgn_0 kgn_1 zgn_1 kgx_0 zgx_0 kgx_1 zgx_1; have kgn_0 : w17.cell? ⟨gn, 0, none⟩ = some (.int .i64 sgn) := H.cell m0 0; have zgn_0 := H.frozen (g := gn) m0 0; have kgn_1 : w17.cell? ⟨gn, 1, none⟩ = some (.slice An l.length cn) := H.cell m0 1; have zgn_1 := H.frozen (g := gn) m0 1; have kgx_0 : w17.cell? ⟨gx, 0, none⟩ = some (.bool (ng x)) := H.cell m1 0; have zgx_0 := H.frozen (g := gx) m1 0; have kgx_1 : w17.cell? ⟨gx, 1, none⟩ = some (.slice A4 (ln x) c5) := H.cell m1 1; have zgx_1 := H.frozen (g := gx) m1 1))
  go_ret
  exact ⟨rfl, H.below⟩

theorem parses_walk (s : ByteArray) (w : World) : Calls Try.prog 3 #[.string s] w (fun e W' => e = .returned (.bool true) ∧ Below w.heap.size w W') := by
  by_cases hs : 80 < s.size
  · exact parses_long s w hs
  · by_cases he : (pr s).2 = 0
    · have hp : pr s = ((pr s).1, 0) := by rw [← he]
      exact parses_ok s w (by omega) _ _ _ ⟨pr_small hp (by omega)⟩ ⟨hp⟩ ⟨RefParse_ok s (by omega) _ hp⟩ ⟨tx_pr s (by omega) _ hp⟩ (by simp)
    · have hp : pr s = ((pr s).1, (pr s).2) := rfl
      rcases pr_eq s (by omega) _ _ hp with ⟨-, -, -, h, -⟩ | ⟨-, h3, h0⟩
      · exact absurd h he
      · refine parses_no s w (by omega) _ _ _ ⟨pr_small hp (by omega)⟩ _ (beq_iff_eq.mpr h3) ⟨hp⟩ ⟨RefParse_no s (by omega) _ _ hp he⟩ ⟨?_⟩ ⟨?_⟩
        · rw [h0]; rfl
        · rw [h0]; rfl

end Go.Proofs.Ytdkapdgbfejgdaa
