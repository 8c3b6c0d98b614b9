/- bigint.Parse: what the loop computes, in plain terms. -/
import Derived.Test.YtdkapdgbfejgdaaT
import Derived.Test.YtdkapdgbfejgdaaShelf
set_option linter.unusedVariables false
set_option linter.unusedSimpArgs false
namespace Go.Proofs.Ytdkapdgbfejgdaa
open Go.RowKit Go.Proofs.YtdkapdgbfejgdaaW.PrintWords Go.Proofs.YtdkapdgbfejgdaaW.PrintLast Go.Proofs.YtdkapdgbfejgdaaW.PrintMore

/-- The byte at i is a digit's sign. -/
def Dig (t : ByteArray) (i : Nat) : Prop := 48 ≤ bt t (i : Int) ∧ bt t (i : Int) ≤ 57
instance (t : ByteArray) (i : Nat) : Decidable (Dig t i) := by unfold Dig; infer_instance
/-- The k bytes from a on are digits' signs. -/
def Dg (t : ByteArray) (a k : Nat) : Prop := ∀ j, a ≤ j → j < a + k → Dig t j
/-- The number that k signs from a on spell. -/
def pc (t : ByteArray) (a : Nat) : Nat → Int
  | 0 => 0
  | k + 1 => 10 * pc t a k + (bt t ((a + k : Nat) : Int) - 48)

theorem pc_add (t : ByteArray) (a k l : Nat) : pc t a (k + l) = pc t a k * 10 ^ l + pc t (a + k) l := by
  induction l with
  | zero => simp [pc]
  | succ l ih =>
    rw [← Nat.add_assoc, pc, ih, pc, Int.pow_succ, ← Nat.add_assoc, Int.mul_add, ← Int.mul_assoc, Int.mul_comm 10, Int.mul_assoc]
    rw [Int.mul_comm (10 ^ l) 10]
    omega
theorem pc_bound {t : ByteArray} {a : Nat} : ∀ {k : Nat}, Dg t a k → 0 ≤ pc t a k ∧ pc t a k < 10 ^ k
  | 0, _ => by simp [pc]
  | k + 1, h => by
    have h1 := pc_bound (k := k) (fun j h1 h2 => h j h1 (by omega))
    have h2 := h (a + k) (by omega) (by omega)
    unfold Dig at h2
    rw [pc, Int.pow_succ]
    omega

theorem size_extract' (t : ByteArray) (i j : Int) (h0 : 0 ≤ i) (h1 : i ≤ j) (h2 : j ≤ (t.size : Int)) : ((t.extract i.toNat j.toNat).size : Int) = j - i := by
  rw [ByteArray.size_extract]; omega
theorem bt_extract (t : ByteArray) (i j k : Int) (h0 : 0 ≤ i) (h1 : 0 ≤ k) (h2 : i + k < j) (h3 : j ≤ (t.size : Int)) : bt (t.extract i.toNat j.toNat) k = bt t ((i.toNat + k.toNat : Nat) : Int) := by
  have hs := size_extract' t i j h0 (by omega) h3
  unfold bt
  rw [dif_pos (by omega), dif_pos (by omega)]
  have : (t.extract i.toNat j.toNat)[k.toNat]'(by omega) = t[i.toNat + k.toNat]'(by omega) := ByteArray.getElem_extract ..
  rw [this]
  simp only [Int.toNat_natCast]

/-- What the loop over a text comes to. -/
def parseT (t : ByteArray) (neg : Bool) (m err : Int) : Prop :=
  (Dg t 0 t.size ∧ m = (if neg = true then -(pc t 0 t.size) else pc t 0 t.size) ∧ err = 0) ∨ (¬ Dg t 0 t.size ∧ m = 0 ∧ err = 3)

theorem parseT_eq {t : ByteArray} {neg : Bool} {m err m' err' : Int} (h : parseT t neg m err) (h' : parseT t neg m' err') : m = m' ∧ err = err' := by
  rcases h with ⟨a, b, c⟩ | ⟨a, b, c⟩ <;> rcases h' with ⟨a', b', c'⟩ | ⟨a', b', c'⟩
  · exact ⟨b.trans b'.symm, c.trans c'.symm⟩
  · exact absurd a a'
  · exact absurd a' a
  · exact ⟨b.trans b'.symm, c.trans c'.symm⟩

/-- Between chunks: i bytes are done. -/
def POut (t : ByteArray) (i x : Int) : Prop := 0 ≤ i ∧ i ≤ (t.size : Int) + 9 ∧ (t.size : Int) ≤ 4096 ∧ Dg t 0 (min i.toNat t.size) ∧ x = pc t 0 (min i.toNat t.size)
/-- Within the chunk from i to j: k bytes are done. -/
def PIn (t : ByteArray) (i j k n s : Int) : Prop := 0 ≤ k ∧ i + k ≤ j ∧ Dg t i.toNat k.toNat ∧ n = pc t i.toNat k.toNat ∧ s = 10 ^ k.toNat

theorem POut.start (t : ByteArray) (h : (t.size : Int) ≤ 4096) : POut t 0 0 := ⟨by omega, by omega, h, fun j h1 h2 => by simp at h2, by simp [pc]⟩
theorem PIn.start (t : ByteArray) (i j : Int) (h : i ≤ j) : PIn t i j 0 0 1 := ⟨by omega, by omega, fun j h1 h2 => by simp at h2; omega, rfl, rfl⟩
theorem PIn.range {t : ByteArray} {i j k n s : Int} (h : PIn t i j k n s) (hj : j ≤ i + 9) : 0 ≤ n ∧ n ≤ 999999999 ∧ 1 ≤ s ∧ s ≤ 1000000000 := by
  obtain ⟨h1, h2, h3, rfl, rfl⟩ := h
  have hb := pc_bound h3
  obtain ⟨q, hq⟩ : ∃ q : Nat, k.toNat = q := ⟨_, rfl⟩
  have hq9 : q ≤ 9 := by omega
  rw [hq] at hb ⊢
  have : (10 : Int) ^ q ≤ 10 ^ 9 := pow_mono (by omega) hq9
  have : (0 : Int) < 10 ^ q := Int.pow_pos (by omega)
  omega
theorem PIn.step {t : ByteArray} {i j k n s b : Int} (h : PIn t i j k n s) (hk : i + k < j) (_h0 : 0 ≤ i) (hb : bt t ((i.toNat + k.toNat : Nat) : Int) = b) (b0 : 48 ≤ b) (b1 : b ≤ 57) : PIn t i j (k + 1) (10 * n + (b - 48)) (10 * s) := by
  obtain ⟨h1, h2, h3, rfl, rfl⟩ := h
  have e : (k + 1).toNat = k.toNat + 1 := by omega
  refine ⟨by omega, by omega, ?_, ?_, ?_⟩
  · rw [e]
    intro x hx1 hx2
    by_cases hx : x < i.toNat + k.toNat
    · exact h3 x hx1 hx
    · obtain rfl : x = i.toNat + k.toNat := by omega
      exact ⟨by omega, by omega⟩
  · rw [e, pc, hb]
  · rw [e, Int.pow_succ, Int.mul_comm]
theorem PIn.next {t : ByteArray} {i j k n s x : Int} (h : PIn t i j k n s) (hO : POut t i x) (hk : i + k = j) (hi : i < (t.size : Int)) (hj : j = if (t.size : Int) < i + 9 then (t.size : Int) else i + 9) : POut t (i + 9) (x * s + n) := by
  obtain ⟨h1, h2, h3, rfl, rfl⟩ := h
  obtain ⟨o1, o2, o3, o4, rfl⟩ := hO
  have e0 : min i.toNat t.size = i.toNat := by omega
  have e1 : min (i + 9).toNat t.size = i.toNat + k.toNat := by split at hj <;> omega
  rw [e0] at o4 ⊢
  refine ⟨by omega, by omega, o3, ?_, ?_⟩
  · rw [e1]
    intro y hy1 hy2
    by_cases hy : y < i.toNat
    · exact o4 y hy1 (by omega)
    · exact h3 y (by omega) (by omega)
  · rw [e1, pc_add, Nat.zero_add]
theorem POut.stop {t : ByteArray} {i x : Int} (h : POut t i x) (hi : (t.size : Int) ≤ i) : Dg t 0 t.size ∧ x = pc t 0 t.size := by
  obtain ⟨o1, o2, o3, o4, rfl⟩ := h
  have e0 : min i.toNat t.size = t.size := by omega
  rw [e0] at o4 ⊢
  exact ⟨o4, rfl⟩
theorem POut.ln {t : ByteArray} {i x : Int} (h : POut t i x) : 0 ≤ x ∧ ln x ≤ 4096 ∧ ng x = false := by
  obtain ⟨o1, o2, o3, o4, rfl⟩ := h
  have hb := pc_bound o4
  obtain ⟨q, hq⟩ : ∃ q : Nat, min i.toNat t.size = q := ⟨_, rfl⟩
  have hq9 : q ≤ 4096 := by omega
  rw [hq] at hb ⊢
  refine ⟨hb.1, ?_, by unfold ng; exact decide_eq_false (by omega)⟩
  refine Nat.le_trans (ln_bound _ q ?_) hq9
  have e : (((pc t 0 q).natAbs : Nat) : Int) = pc t 0 q := by omega
  have h1 : (((pc t 0 q).natAbs : Nat) : Int) < ((10 ^ q : Nat) : Int) := by rw [e]; simpa using hb.2
  have h2 : (10 : Nat) ^ q ≤ 4294967296 ^ q := Nat.pow_le_pow_left (by omega) q
  omega
theorem ln_small {s : Int} (h0 : 0 ≤ s) (h1 : s < 4294967296) : ln s ≤ 1 := ln_bound s 1 (by omega)
theorem ln_mul_le {x s : Int} (k : Nat) (hx : ln x ≤ k) (hs : ln s ≤ 1) : ln (x * s) ≤ k + 1 := by
  refine ln_bound _ _ ?_
  rw [Int.natAbs_mul, Nat.pow_succ]
  have h1 := Nat.lt_of_lt_of_le (ln_lt x) (pow_le_nat hx)
  have h2 := Nat.lt_of_lt_of_le (ln_lt s) (pow_le_nat hs)
  rw [Nat.pow_one] at h2
  exact Nat.mul_lt_mul_of_lt_of_lt h1 h2
theorem bad_dig {t : ByteArray} {p : Nat} (hp : p < t.size) (h : bt t (p : Int) < 48 ∨ 57 < bt t (p : Int)) (neg : Bool) : parseT t neg 0 3 := by
  refine .inr ⟨fun hd => ?_, rfl, rfl⟩
  have := hd p (by omega) (by omega)
  unfold Dig at this
  omega

/-- It returns an integer and an error's number. -/
def RetPa (w : World) (m err : Int) (e : Ending) (w' : World) : Prop :=
  ∃ A c, e = .returned (.tuple #[.agg #[.bool (ng m), .slice A (ln m) c], .int .i64 err]) ∧ (bw A c m).at w' (fun k => w.heap.size ≤ k) ∧ Below w.heap.size w w'

/-- strings.CutPrefix of "-". -/
def cutS (s : ByteArray) : ByteArray := ⟨(Lib.trimPrefix s.data.toList [45]).toArray⟩
def cutB (s : ByteArray) : Bool := Lib.hasPrefix s.data.toList [45]
theorem Cut_ok (s t : ByteArray) (b : Bool) (ht : cutS s = t) (hb : cutB s = b) (w : World) : Calls Try.prog 74 #[.string s, .string ⟨#[45]⟩] w fun e w' => e = .returned (.tuple #[.string t, .bool b]) ∧ w = w' := by
  subst ht hb
  exact (Try.strings_CutPrefix s ⟨#[45]⟩ w).mono fun e w' h => ⟨h.1, h.2.symm⟩

end Go.Proofs.Ytdkapdgbfejgdaa
