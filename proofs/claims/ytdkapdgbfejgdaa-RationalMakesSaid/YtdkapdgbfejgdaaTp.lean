/- Texts and the numbers that they write; a text that is a number's is the number's text. -/
import Derived.Test.YtdkapdgbfejgdaaV
set_option linter.unusedVariables false
set_option linter.unusedSimpArgs false
namespace Go.Proofs.Ytdkapdgbfejgdaa
open Go.RowKit Go.Proofs.YtdkapdgbfejgdaaW.PrintWords Go.Proofs.YtdkapdgbfejgdaaW.PrintLast Go.Proofs.YtdkapdgbfejgdaaW.PrintMore

theorem toList_eqT (t : ByteArray) : t.toList = t.data.toList := by
  have key : ∀ (n i : Nat) (r : List UInt8), t.size - i = n → ByteArray.toList.loop t i r = r.reverse ++ t.data.toList.drop i := by
    intro n
    induction n with
    | zero =>
      intro i r h
      unfold ByteArray.toList.loop
      have h0 : ¬ i < t.size := by omega
      rw [if_neg h0, List.drop_eq_nil_of_le (by rw [Array.length_toList]; show t.size ≤ i; omega), List.append_nil]
    | succ n ih =>
      intro i r h
      unfold ByteArray.toList.loop
      have h0 : i < t.size := by omega
      rw [if_pos h0, ih (i + 1) _ (by omega)]
      have hl : i < t.data.toList.length := by rw [Array.length_toList]; exact h0
      rw [List.drop_eq_getElem_cons hl, List.reverse_cons, List.append_assoc]
      congr 1
      simp only [List.singleton_append, List.cons.injEq, and_true]
      show t.get! i = _
      have : t.get! i = t.data[i]! := rfl
      rw [this, getElem!_pos t.data i h0]
      exact (Array.getElem_toList h0).symm
  have := key t.size 0 [] (by omega)
  unfold ByteArray.toList
  simpa using this
theorem bt_getD (s : ByteArray) (i : Nat) : bt s (i : Int) = (bytesOf s).getD i 0 := by
  rw [← rd_bytesOf]; unfold rd; rw [Int.toNat_natCast]
theorem cut_cases (s : ByteArray) : (cutB s = true ∧ 0 < s.size ∧ bt s 0 = 45 ∧ bytesOf (cutS s) = (bytesOf s).drop 1) ∨ (cutB s = false ∧ (s.size = 0 ∨ bt s 0 ≠ 45) ∧ cutS s = s) := by
  obtain ⟨⟨l⟩⟩ := s
  cases l with
  | nil => exact .inr ⟨rfl, .inl rfl, rfl⟩
  | cons c r =>
    by_cases h : c = 45
    · subst h
      refine .inl ⟨?_, ?_, ?_, ?_⟩
      · simp [cutB, Lib.hasPrefix]
      · simp [ByteArray.size]
      · rfl
      · simp [cutS, Lib.trimPrefix, Lib.hasPrefix, bytesOf]
    · have hpf : Lib.hasPrefix (c :: r) [45] = false := by
        have : ((45 : UInt8) == c) = false := beq_eq_false_iff_ne.mpr (fun e => h e.symm)
        show ((45 : UInt8) == c && List.isPrefixOf [] r) = false
        rw [this]; rfl
      refine .inr ⟨?_, .inr ?_, ?_⟩
      · exact hpf
      · intro h'
        apply h
        have h2 : ((c.toNat : Nat) : Int) = 45 := h'
        have h3 : c.toNat = 45 := by omega
        exact UInt8.toNat_inj.mp h3
      · simp [cutS, Lib.trimPrefix, hpf]
/-- Where the digits begin. -/
def frm (s : ByteArray) : Nat := if cutB s = true then 1 else 0
theorem frm_le (s : ByteArray) : frm s ≤ s.size := by
  unfold frm
  rcases cut_cases s with ⟨h, h1, -⟩ | ⟨h, -⟩ <;> rw [h] <;> simp <;> omega
theorem cut_size (s : ByteArray) : (cutS s).size = s.size - frm s := by
  unfold frm
  rcases cut_cases s with ⟨h, h1, h2, h3⟩ | ⟨h, h1, h2⟩
  · rw [h, if_pos rfl, ← bytesOf_length, h3, List.length_drop, bytesOf_length]
  · rw [h, if_neg (by simp), h2]; rfl
theorem cut_bt (s : ByteArray) (i : Nat) : bt (cutS s) (i : Int) = bt s ((frm s + i : Nat) : Int) := by
  unfold frm
  rcases cut_cases s with ⟨h, h1, h2, h3⟩ | ⟨h, h1, h2⟩
  · rw [h, if_pos rfl, bt_getD, h3, bt_getD]
    simp [List.getD, List.getElem?_drop, Nat.add_comm]
  · rw [h, if_neg (by simp), h2, Nat.zero_add]
theorem cut_pc (s : ByteArray) : ∀ k, pc (cutS s) 0 k = pc s (frm s) k
  | 0 => rfl
  | k + 1 => by rw [pc, pc, cut_pc s k, Nat.zero_add, cut_bt]
theorem cut_Dg (s : ByteArray) (k : Nat) : Dg (cutS s) 0 k ↔ Dg s (frm s) k := by
  constructor
  · intro h j h1 h2
    have := h (j - frm s) (by omega) (by omega)
    unfold Dig at this ⊢
    rw [cut_bt, show frm s + (j - frm s) = j by omega] at this
    exact this
  · intro h j h1 h2
    have := h (frm s + j) (by omega) (by omega)
    unfold Dig at this ⊢
    rw [cut_bt]
    exact this

/-- The digits from a on, the last one first. -/
def rl (s : ByteArray) (a : Nat) : Nat → List Int
  | 0 => []
  | n + 1 => (bt s ((a + n : Nat) : Int) - 48) :: rl s a n
theorem rl_vl (s : ByteArray) (a : Nat) : ∀ n, vl 10 (rl s a n) = pc s a n
  | 0 => rfl
  | n + 1 => by rw [rl, vl_cons, rl_vl s a n, pc]; omega
theorem rl_okd {s : ByteArray} {a : Nat} : ∀ {n : Nat}, Dg s a n → Okd 10 (rl s a n)
  | 0, _ => Okd.nil _
  | n + 1, h => by
    have h1 := h (a + n) (by omega) (by omega)
    unfold Dig at h1
    exact Okd.cons (by omega) (by omega) (rl_okd (fun j h2 h3 => h j h2 (by omega)))

theorem toList_len (s : ByteArray) : s.toList.length = s.size := by rw [toList_eqT, Array.length_toList]; rfl
theorem toList_one (s : ByteArray) (h : s.size = 1) (hb : bt s ((0 : Nat) : Int) = 48) : s.toList = [48] := by
  rw [toList_eqT]
  obtain ⟨⟨l⟩⟩ := s
  match l, h with
  | [c], _ =>
    have h2 : ((c.toNat : Nat) : Int) = 48 := hb
    have h3 : c.toNat = 48 := by omega
    have : c = 48 := UInt8.toNat_inj.mp h3
    rw [this]
theorem pr_eq (s : ByteArray) (hs : s.size ≤ 4096) (x e : Int) (h : pr s = (x, e)) :
    (s.size ≠ frm s ∧ ¬ (bt s (frm s : Int) = 48 ∧ 1 < s.size) ∧ Dg s (frm s) (s.size - frm s) ∧ e = 0 ∧ x = if cutB s = true then -(pc s (frm s) (s.size - frm s)) else pc s (frm s) (s.size - frm s)) ∨
    ((s.size = frm s ∨ (bt s (frm s : Int) = 48 ∧ 1 < s.size) ∨ ¬ Dg s (frm s) (s.size - frm s)) ∧ e = 3 ∧ x = 0) := by
  have hle := frm_le s
  have hf : frm s ≤ 1 := by unfold frm; split <;> omega
  have c0 : (cutS s).toList = [] ↔ s.size = frm s := by
    have h1 : (cutS s).toList = [] ↔ (cutS s).size = 0 := by
      constructor
      · intro h; by_cases h0 : (cutS s).size = 0
        · exact h0
        · have := toList_len (cutS s); rw [h] at this; simp at this; omega
      · intro h; by_cases h0 : (cutS s).toList = []
        · exact h0
        · have := size_pos_of _ h0; omega
    rw [h1, cut_size]; omega
  have c1 : bt (cutS s) 0 = bt s (frm s : Int) := cut_bt s 0
  unfold pr at h
  rw [if_neg (by omega)] at h
  rw [cut_size, cut_Dg, cut_pc, c1] at h
  have c2 : s.size ≠ frm s → ((bt s (frm s : Int) = 48 ∧ s.toList ≠ [48]) ↔ (bt s (frm s : Int) = 48 ∧ 1 < s.size)) := by
    intro hne
    constructor
    · rintro ⟨h1, h2⟩
      refine ⟨h1, ?_⟩
      by_cases h3 : 1 < s.size
      · exact h3
      · exfalso
        have h4 : s.size = 1 := by omega
        have h5 : frm s = 0 := by omega
        rw [h5] at h1
        exact h2 (toList_one s h4 h1)
    · rintro ⟨h1, h2⟩
      refine ⟨h1, fun h3 => ?_⟩
      have := toList_len s
      rw [h3] at this
      simp at this
      omega
  by_cases h0 : s.size = frm s
  · rw [if_pos (.inl (c0.mpr h0))] at h
    injection h with h1 h2
    exact .inr ⟨.inl h0, h2.symm, h1.symm⟩
  · by_cases h3 : bt s (frm s : Int) = 48 ∧ 1 < s.size
    · rw [if_pos (.inr (.inl ((c2 h0).mpr h3)))] at h
      injection h with h1 h2
      exact .inr ⟨.inr (.inl h3), h2.symm, h1.symm⟩
    · by_cases h4 : Dg s (frm s) (s.size - frm s)
      · rw [if_neg (by
          rintro (h5 | h5 | h5)
          · exact h0 (c0.mp h5)
          · exact h3 ((c2 h0).mp h5)
          · exact h5 h4)] at h
        injection h with h1 h2
        exact .inl ⟨h0, h3, h4, h2.symm, h1.symm⟩
      · rw [if_pos (.inr (.inr h4))] at h
        injection h with h1 h2
        exact .inr ⟨.inr (.inr h4), h2.symm, h1.symm⟩

end Go.Proofs.Ytdkapdgbfejgdaa
