/- bigint.Parse: what the loop computes, in plain terms. -/
import Derived.Test.YtdkapdgbfejgdaaQ23
import Derived.Test.YtdkapdgbfejgdaaShelf
/- bigint.Int.Text: the decimal text. -/
namespace Go.Proofs.Ytdkapdgbfejgdaa
open Go.RowKit Go.Proofs.YtdkapdgbfejgdaaW.PrintWords Go.Proofs.YtdkapdgbfejgdaaW.PrintLast Go.Proofs.YtdkapdgbfejgdaaW.PrintMore
open Go.Proofs.Ytdkapdgbfejgdaa.P
set_option linter.unusedSimpArgs false
set_option linter.unusedVariables false

theorem rev_l0 : ∀ (n : Nat) (k : Nat) (p m s : List Int), m.length ≤ n → p.length = s.length → m.length < k → p.length + m.length + s.length ≤ 1000000000000000 →
    slices_Reverse_byte_byte.l0 k (p ++ m ++ s) (p.length : Int) ((p.length : Int) + m.length - 1) = some (p ++ m.reverse ++ s) := by
  intro n
  induction n with
  | zero =>
    intro k p m s hm hps hk hL
    obtain rfl : m = [] := List.length_eq_zero_iff.mp (by omega)
    obtain ⟨k, rfl⟩ : ∃ j, k = j + 1 := ⟨k - 1, by omega⟩
    simp only [slices_Reverse_byte_byte.l0]
    rw [if_neg (by simp; omega)]
    simp
  | succ n ih =>
    intro k p m s hm hps hk hL
    obtain ⟨k, rfl⟩ : ∃ j, k = j + 1 := ⟨k - 1, by omega⟩
    match m, hm, hk with
    | [], _, _ =>
      simp only [slices_Reverse_byte_byte.l0]
      rw [if_neg (by simp; omega)]
      simp
    | [x], _, _ =>
      simp only [slices_Reverse_byte_byte.l0]
      rw [if_neg (by simp)]
      simp
    | x :: y :: r, hm, hk =>
      obtain ⟨m', z, hz⟩ : ∃ m' z, y :: r = m' ++ [z] := ⟨(y :: r).dropLast, (y :: r).getLast (by simp), (List.dropLast_concat_getLast (by simp)).symm⟩
      rw [hz] at hm hk hL ⊢
      simp only [List.length_cons, List.length_append, List.length_nil] at hm hk hL
      have hj : ((p.length : Int) + (((x :: (m' ++ [z])).length : Nat) : Int) - 1) = ((p.length + m'.length + 1 : Nat) : Int) := by simp; omega
      rw [hj]
      simp only [slices_Reverse_byte_byte.l0]
      have hlen : (p ++ x :: (m' ++ [z]) ++ s).length = p.length + (m'.length + 1 + 1) + s.length := by simp; omega
      rw [if_pos (by omega), if_pos (by omega), if_pos (by rw [hlen]; omega), if_pos (by omega), if_pos (by rw [hlen]; omega)]
      have r1 : rd (p ++ x :: (m' ++ [z]) ++ s) ((p.length + m'.length + 1 : Nat) : Int) = z := by
        unfold rd
        rw [Int.toNat_natCast]
        have : p ++ x :: (m' ++ [z]) ++ s = (p ++ x :: m') ++ (z :: s) := by simp
        rw [this, List.getD_eq_getElem?_getD, List.getElem?_append_right (by simp; omega)]
        simp [show p.length + m'.length + 1 - (p.length + (m'.length + 1)) = 0 by omega]
      have r2 : rd (p ++ x :: (m' ++ [z]) ++ s) (p.length : Int) = x := by
        unfold rd
        rw [Int.toNat_natCast]
        have : p ++ x :: (m' ++ [z]) ++ s = p ++ (x :: (m' ++ [z] ++ s)) := by simp
        rw [this, List.getD_eq_getElem?_getD, List.getElem?_append_right (by simp)]
        simp
      rw [r1, r2, Int.toNat_natCast, Int.toNat_natCast]
      have e1 : ((p ++ x :: (m' ++ [z]) ++ s).set p.length z).set (p.length + m'.length + 1) x = (p ++ [z]) ++ m' ++ (x :: s) := by
        have : p ++ x :: (m' ++ [z]) ++ s = p ++ (x :: (m' ++ z :: s)) := by simp
        rw [this, List.set_append_right _ _ (by omega), Nat.sub_self, List.set_cons_zero]
        rw [List.set_append_right _ _ (by omega)]
        rw [show p.length + m'.length + 1 - p.length = m'.length + 1 by omega, List.set_cons_succ, List.set_append_right _ _ (by omega), Nat.sub_self, List.set_cons_zero]
        simp
      rw [e1]
      have e2 : wrap64 ((p.length : Int) + 1) = (((p ++ [z]).length : Nat) : Int) := by unfold wrap64; simp; omega
      have e3 : wrap64 (((p.length + m'.length + 1 : Nat) : Int) - 1) = (((p ++ [z]).length : Nat) : Int) + (m'.length : Int) - 1 := by unfold wrap64; simp; omega
      rw [e2, e3, ih k (p ++ [z]) m' (x :: s) (by omega) (by simp; omega) (by omega) (by simp; omega)]
      simp

theorem rev_f (k : Nat) (l : List Int) (hk : l.length < k) (hL : l.length ≤ 1000000000000000) : slices_Reverse_byte_byte.f k l = some l.reverse := by
  have h := rev_l0 l.length k [] l [] (Nat.le_refl _) rfl hk (by simpa using hL)
  simp at h
  unfold slices_Reverse_byte_byte.f
  have e : wrap64 ((l.length : Int) - 1) = (l.length : Int) - 1 := by unfold wrap64; omega
  rw [e]; exact h

/-- Digits as codes of their signs. -/
def c48 (l : List Int) : List Int := l.map (fun d => 48 + d)
/-- The text that is left to be turned round. -/
def fin48 (neg : Bool) (out : List Int) : ByteArray := strOfNums ((if neg = true then out ++ [45] else out).reverse)

theorem dg10_step {V : Nat} (h : V ≠ 0) : dg 10 V = ((V % 10 : Nat) : Int) :: dg 10 (V / 10) := dg_step 10 (by omega) V h
theorem c48_step {V : Nat} (h : V ≠ 0) : c48 (dg 10 V) = (48 + ((V % 10 : Nat) : Int)) :: c48 (dg 10 (V / 10)) := by rw [dg10_step h]; rfl

def TextA (neg : Bool) (l : List Int) (N : Nat) : Prop := ∀ L, ∃ K, ∀ k, K ≤ k → ∀ out : List Int, out.length ≤ L → out.length + (dg 10 N).length ≤ 1000000000000 →
  bigint_Int_Text.l0 k out (dg 4294967296 N) neg l = some (fin48 neg (out ++ c48 (dg 10 N)))

theorem textB {neg : Bool} {l : List Int} {N : Nat} (hA : TextA neg l N) : ∀ (j : Nat), j ≤ 9 → ∀ L, ∃ K, ∀ k, K ≤ k → ∀ (out : List Int) (d : Nat), d < 10 ^ j → out.length ≤ L → out.length + (dg 10 (N * 10 ^ j + d)).length ≤ 1000000000000 →
    bigint_Int_Text.l1 k out (dg 4294967296 N) (d : Int) ((9 - j : Nat) : Int) neg l = some (fin48 neg (out ++ c48 (dg 10 (N * 10 ^ j + d)))) := by
  intro j
  induction j with
  | zero =>
    intro hj L
    obtain ⟨K, hK⟩ := hA L
    refine ⟨K + 1, fun k hk out d hd ho hb => ?_⟩
    obtain ⟨k, rfl⟩ : ∃ i, k = i + 1 := ⟨k - 1, by omega⟩
    obtain rfl : d = 0 := by simpa using hd
    simp only [bigint_Int_Text.l1]
    rw [if_neg (by simp)]
    simp only [Nat.pow_zero, Nat.mul_one, Nat.add_zero] at hb ⊢
    exact hK k (by omega) out ho hb
  | succ j ih =>
    intro hj L
    obtain ⟨K0, hK0⟩ := hA L
    obtain ⟨K, hK⟩ := ih (by omega) (L + 1)
    refine ⟨K + K0 + 1, fun k hk out d hd ho hb => ?_⟩
    obtain ⟨k, rfl⟩ : ∃ i, k = i + 1 := ⟨k - 1, by omega⟩
    have hp : 10 ^ (j + 1) = 10 * 10 ^ j := by rw [Nat.pow_succ, Nat.mul_comm]
    have hV10 : (N * 10 ^ (j + 1) + d) % 10 = d % 10 := by rw [hp, Nat.mul_left_comm, Nat.mul_add_mod]
    have hVd : (N * 10 ^ (j + 1) + d) / 10 = N * 10 ^ j + d / 10 := by rw [hp, Nat.mul_left_comm, Nat.mul_add_div (by omega)]
    have hd10 : d < 10 ^ 9 := Nat.lt_of_lt_of_le hd (Nat.pow_le_pow_right (by omega) hj)
    have hw : wrap64 (((9 - (j + 1) : Nat) : Int) + 1) = ((9 - j : Nat) : Int) := by unfold wrap64; omega
    have ht : Int.tdiv (d : Int) 10 % 4294967296 = ((d / 10 : Nat) : Int) := by rw [Int.tdiv_eq_ediv_of_nonneg (by omega)]; omega
    have hm : (48 + Int.tmod (d : Int) 10) % 256 = 48 + ((d % 10 : Nat) : Int) := by rw [Int.tmod_eq_emod_of_nonneg (by omega)]; omega
    have go : N * 10 ^ (j + 1) + d ≠ 0 → bigint_Int_Text.l1 k (out ++ [(48 + Int.tmod (d : Int) 10) % 256]) (dg 4294967296 N) (Int.tdiv (d : Int) 10 % 4294967296) (wrap64 (((9 - (j + 1) : Nat) : Int) + 1)) neg l = some (fin48 neg (out ++ c48 (dg 10 (N * 10 ^ (j + 1) + d)))) := by
      intro hne
      rw [hw, ht, hm, c48_step hne, hV10, hVd]
      rw [dg10_step hne, List.length_cons, hVd] at hb
      have := hK k (by omega) (out ++ [48 + ((d % 10 : Nat) : Int)]) (d / 10) (by omega) (by simp; omega) (by simp; omega)
      rw [this]; simp
    simp only [bigint_Int_Text.l1]
    rw [if_pos (by omega)]
    by_cases hN : N = 0
    · subst hN
      have e0 : dg 4294967296 0 = [] := rfl
      rw [e0] at go ⊢
      rw [if_neg (by simp)]
      by_cases hd0 : d = 0
      · subst hd0
        rw [if_neg (by simp)]
        have := hK0 k (by omega) out ho (by simpa [dg_zero] using hb)
        rw [e0] at this
        rw [this]; simp
      · rw [if_pos (by omega), if_pos (by omega)]
        exact go (by omega)
    · have hne : dg 4294967296 N ≠ [] := fun e => hN ((dg_nil_iff 4294967296 (by omega) N).mp e)
      have hl : 0 < (dg 4294967296 N).length := List.length_pos_iff.mpr hne
      rw [if_pos (by omega), if_pos (by omega)]
      refine go ?_
      have : 0 < N * 10 ^ (j + 1) := Nat.mul_pos (by omega) (Nat.pow_pos (by omega))
      omega

theorem textA (neg : Bool) (l : List Int) (N : Nat) : (dg 4294967296 N).length ≤ 10000000 → TextA neg l N := by
  induction N using Nat.strongRecOn with
  | ind N ih =>
    intro hlen L
    by_cases hN : N = 0
    · subst hN
      refine ⟨L + 3, fun k hk out ho hb => ?_⟩
      obtain ⟨k, rfl⟩ : ∃ i, k = i + 1 := ⟨k - 1, by omega⟩
      have e0 : dg 4294967296 0 = [] := rfl
      have e1 : c48 (dg 10 0) = [] := rfl
      rw [e0, e1, List.append_nil]
      simp only [dg_zero, List.length_nil, Nat.add_zero] at hb
      simp only [bigint_Int_Text.l0]
      rw [if_neg (by simp)]
      unfold fin48
      cases neg with
      | true =>
        rw [if_pos rfl, if_pos (by omega), rev_f k _ (by simp; omega) (by simp; omega)]; rfl
      | false =>
        rw [if_neg (by simp), rev_f k _ (by omega) (by omega)]; rfl
    · have hlt : N / 1000000000 < N := Nat.div_lt_self (by omega) (by omega)
      have hl2 : (dg 4294967296 (N / 1000000000)).length ≤ 10000000 := by
        refine Nat.le_trans (dg_len_le 4294967296 (by omega) _ (dg 4294967296 N).length ?_) hlen
        exact Nat.lt_of_le_of_lt (Nat.div_le_self _ _) (dg_lt 4294967296 (by omega) N)
      obtain ⟨K, hK⟩ := textB (ih _ hlt hl2) 9 (Nat.le_refl _) L
      refine ⟨K + 1, fun k hk out ho hb => ?_⟩
      obtain ⟨k, rfl⟩ : ∃ i, k = i + 1 := ⟨k - 1, by omega⟩
      have hne : dg 4294967296 N ≠ [] := fun e => hN ((dg_nil_iff 4294967296 (by omega) N).mp e)
      have hl : 0 < (dg 4294967296 N).length := List.length_pos_iff.mpr hne
      simp only [bigint_Int_Text.l0]
      rw [if_pos (by omega)]
      have hs : bigint_short.f (dg 4294967296 N) 1000000000 = some (dg 4294967296 (N / 1000000000), ((N % 1000000000 : Nat) : Int)) := by
        unfold bigint_short.f
        rw [if_pos ⟨dg_okd N, hlen, by omega, by omega⟩, vl_dgn]
        rfl
      rw [hs]
      simp only [Option.bind_some]
      have e : N / 1000000000 * 10 ^ 9 + N % 1000000000 = N := by
        have := Nat.div_add_mod N 1000000000
        omega
      have := hK k (by omega) out (N % 1000000000) (Nat.mod_lt _ (by omega)) ho (by rw [e]; exact hb)
      rw [e] at this
      exact this

/-- The decimal text of m, as numbers. -/
def txt (m : Int) : List Int := if m = 0 then [48] else (if m < 0 then [45] else []) ++ (c48 (dg 10 m.natAbs)).reverse
/-- The decimal text of m. -/
def tx (m : Int) : ByteArray := strOfNums (txt m)

theorem dg10_len (n k : Nat) (h : (dg 4294967296 n).length ≤ k) : (dg 10 n).length ≤ 10 * k := by
  refine dg_len_le 10 (by omega) _ _ ?_
  have h1 := dg_lt 4294967296 (by omega) n
  have h2 : 4294967296 ^ (dg 4294967296 n).length ≤ 4294967296 ^ k := Nat.pow_le_pow_right (by omega) h
  have h3 : 4294967296 ^ k ≤ 10000000000 ^ k := Nat.pow_le_pow_left (by omega) k
  have h4 : (10000000000 : Nat) ^ k = 10 ^ (10 * k) := by rw [Nat.pow_mul]
  omega

theorem Text_f (m : Int) (hm : ln m ≤ 10000000) : ∃ k, bigint_Int_Text.f k (ng m) (digs m) = some (tx m) := by
  by_cases h0 : m = 0
  · subst h0
    exact ⟨0, by unfold bigint_Int_Text.f tx txt; rfl⟩
  · obtain ⟨K, hK⟩ := textA (ng m) (digs m) m.natAbs hm 0
    have hl := ln_pos h0
    refine ⟨K, ?_⟩
    unfold bigint_Int_Text.f
    rw [if_neg (by show ¬ ((ln m : Int) = 0); omega)]
    have h10 := dg10_len m.natAbs 10000000 hm
    have := hK K (Nat.le_refl _) [] (Nat.le_refl _) (by simp; omega)
    refine this.trans ?_
    unfold fin48 tx txt ng
    rw [if_neg h0]
    by_cases hn : m < 0 <;> simp [hn]

/-- It returns a text. -/
def RetT (s : ByteArray) (w : World) (e : Ending) (w' : World) : Prop := e = .returned (.string s) ∧ Below w.heap.size w w'

theorem Text_ok (A : Option Addr) (c : Nat) (m : Int) (w : World) (ok : Nat → Prop) (hf : (bw A c m).at w ok) (hm : ln m ≤ 10000000) :
    Calls Try.prog 26 #[.agg #[.bool (ng m), .slice A (ln m) c]] w (RetT (tx m) w) := by
  obtain ⟨k, hk⟩ := Text_f m hm
  exact (bigint_Int_Text.calls k (ng m) ok A c (digs m) _ w ⟨A, c, rfl, hf.1, hf.2⟩ hk).mono fun _ _ h => h

end Go.Proofs.Ytdkapdgbfejgdaa

/- bigint.Parse: what the loop computes, in plain terms. -/
set_option linter.unusedVariables false
set_option linter.unusedSimpArgs false
namespace Go.Proofs.Ytdkapdgbfejgdaa
open Go.RowKit Go.Proofs.YtdkapdgbfejgdaaW.PrintWords Go.Proofs.YtdkapdgbfejgdaaW.PrintLast Go.Proofs.YtdkapdgbfejgdaaW.PrintMore

/-- The byte at i is a digit's sign. -/
def Dig (t : ByteArray) (i : Nat) : Prop := 48 ≤ bt t (i : Int) ∧ bt t (i : Int) ≤ 57
instance (t : ByteArray) (i : Nat) : Decidable (Dig t i) := by unfold Dig; infer_instance
/-- The k bytes from a on are digits' signs. -/
def Dg (t : ByteArray) (a k : Nat) : Prop := ∀ j, a ≤ j → j < a + k → Dig t j
/-- The number that k signs from a on spell. -/
def pc (t : ByteArray) (a : Nat) : Nat → Int
  | 0 => 0
  | k + 1 => 10 * pc t a k + (bt t ((a + k : Nat) : Int) - 48)

theorem pc_add (t : ByteArray) (a k l : Nat) : pc t a (k + l) = pc t a k * 10 ^ l + pc t (a + k) l := by
  induction l with
  | zero => simp [pc]
  | succ l ih =>
    rw [← Nat.add_assoc, pc, ih, pc, Int.pow_succ, ← Nat.add_assoc, Int.mul_add, ← Int.mul_assoc, Int.mul_comm 10, Int.mul_assoc]
    rw [Int.mul_comm (10 ^ l) 10]
    omega
theorem pc_bound {t : ByteArray} {a : Nat} : ∀ {k : Nat}, Dg t a k → 0 ≤ pc t a k ∧ pc t a k < 10 ^ k
  | 0, _ => by simp [pc]
  | k + 1, h => by
    have h1 := pc_bound (k := k) (fun j h1 h2 => h j h1 (by omega))
    have h2 := h (a + k) (by omega) (by omega)
    unfold Dig at h2
    rw [pc, Int.pow_succ]
    omega

theorem size_extract' (t : ByteArray) (i j : Int) (h0 : 0 ≤ i) (h1 : i ≤ j) (h2 : j ≤ (t.size : Int)) : ((t.extract i.toNat j.toNat).size : Int) = j - i := by
  rw [ByteArray.size_extract]; omega
theorem bt_extract (t : ByteArray) (i j k : Int) (h0 : 0 ≤ i) (h1 : 0 ≤ k) (h2 : i + k < j) (h3 : j ≤ (t.size : Int)) : bt (t.extract i.toNat j.toNat) k = bt t ((i.toNat + k.toNat : Nat) : Int) := by
  have hs := size_extract' t i j h0 (by omega) h3
  unfold bt
  rw [dif_pos (by omega), dif_pos (by omega)]
  have : (t.extract i.toNat j.toNat)[k.toNat]'(by omega) = t[i.toNat + k.toNat]'(by omega) := ByteArray.getElem_extract ..
  rw [this]
  simp only [Int.toNat_natCast]

/-- What the loop over a text comes to. -/
def parseT (t : ByteArray) (neg : Bool) (m err : Int) : Prop :=
  (Dg t 0 t.size ∧ m = (if neg = true then -(pc t 0 t.size) else pc t 0 t.size) ∧ err = 0) ∨ (¬ Dg t 0 t.size ∧ m = 0 ∧ err = 3)

theorem parseT_eq {t : ByteArray} {neg : Bool} {m err m' err' : Int} (h : parseT t neg m err) (h' : parseT t neg m' err') : m = m' ∧ err = err' := by
  rcases h with ⟨a, b, c⟩ | ⟨a, b, c⟩ <;> rcases h' with ⟨a', b', c'⟩ | ⟨a', b', c'⟩
  · exact ⟨b.trans b'.symm, c.trans c'.symm⟩
  · exact absurd a a'
  · exact absurd a' a
  · exact ⟨b.trans b'.symm, c.trans c'.symm⟩

/-- Between chunks: i bytes are done. -/
def POut (t : ByteArray) (i x : Int) : Prop := 0 ≤ i ∧ i ≤ (t.size : Int) + 9 ∧ (t.size : Int) ≤ 4096 ∧ Dg t 0 (min i.toNat t.size) ∧ x = pc t 0 (min i.toNat t.size)
/-- Within the chunk from i to j: k bytes are done. -/
def PIn (t : ByteArray) (i j k n s : Int) : Prop := 0 ≤ k ∧ i + k ≤ j ∧ Dg t i.toNat k.toNat ∧ n = pc t i.toNat k.toNat ∧ s = 10 ^ k.toNat

theorem POut.start (t : ByteArray) (h : (t.size : Int) ≤ 4096) : POut t 0 0 := ⟨by omega, by omega, h, fun j h1 h2 => by simp at h2, by simp [pc]⟩
theorem PIn.start (t : ByteArray) (i j : Int) (h : i ≤ j) : PIn t i j 0 0 1 := ⟨by omega, by omega, fun j h1 h2 => by simp at h2; omega, rfl, rfl⟩
theorem PIn.range {t : ByteArray} {i j k n s : Int} (h : PIn t i j k n s) (hj : j ≤ i + 9) : 0 ≤ n ∧ n ≤ 999999999 ∧ 1 ≤ s ∧ s ≤ 1000000000 := by
  obtain ⟨h1, h2, h3, rfl, rfl⟩ := h
  have hb := pc_bound h3
  obtain ⟨q, hq⟩ : ∃ q : Nat, k.toNat = q := ⟨_, rfl⟩
  have hq9 : q ≤ 9 := by omega
  rw [hq] at hb ⊢
  have : (10 : Int) ^ q ≤ 10 ^ 9 := pow_mono (by omega) hq9
  have : (0 : Int) < 10 ^ q := Int.pow_pos (by omega)
  omega
theorem PIn.step {t : ByteArray} {i j k n s b : Int} (h : PIn t i j k n s) (hk : i + k < j) (_h0 : 0 ≤ i) (hb : bt t ((i.toNat + k.toNat : Nat) : Int) = b) (b0 : 48 ≤ b) (b1 : b ≤ 57) : PIn t i j (k + 1) (10 * n + (b - 48)) (10 * s) := by
  obtain ⟨h1, h2, h3, rfl, rfl⟩ := h
  have e : (k + 1).toNat = k.toNat + 1 := by omega
  refine ⟨by omega, by omega, ?_, ?_, ?_⟩
  · rw [e]
    intro x hx1 hx2
    by_cases hx : x < i.toNat + k.toNat
    · exact h3 x hx1 hx
    · obtain rfl : x = i.toNat + k.toNat := by omega
      exact ⟨by omega, by omega⟩
  · rw [e, pc, hb]
  · rw [e, Int.pow_succ, Int.mul_comm]
theorem PIn.next {t : ByteArray} {i j k n s x : Int} (h : PIn t i j k n s) (hO : POut t i x) (hk : i + k = j) (hi : i < (t.size : Int)) (hj : j = if (t.size : Int) < i + 9 then (t.size : Int) else i + 9) : POut t (i + 9) (x * s + n) := by
  obtain ⟨h1, h2, h3, rfl, rfl⟩ := h
  obtain ⟨o1, o2, o3, o4, rfl⟩ := hO
  have e0 : min i.toNat t.size = i.toNat := by omega
  have e1 : min (i + 9).toNat t.size = i.toNat + k.toNat := by split at hj <;> omega
  rw [e0] at o4 ⊢
  refine ⟨by omega, by omega, o3, ?_, ?_⟩
  · rw [e1]
    intro y hy1 hy2
    by_cases hy : y < i.toNat
    · exact o4 y hy1 (by omega)
    · exact h3 y (by omega) (by omega)
  · rw [e1, pc_add, Nat.zero_add]
theorem POut.stop {t : ByteArray} {i x : Int} (h : POut t i x) (hi : (t.size : Int) ≤ i) : Dg t 0 t.size ∧ x = pc t 0 t.size := by
  obtain ⟨o1, o2, o3, o4, rfl⟩ := h
  have e0 : min i.toNat t.size = t.size := by omega
  rw [e0] at o4 ⊢
  exact ⟨o4, rfl⟩
theorem POut.ln {t : ByteArray} {i x : Int} (h : POut t i x) : 0 ≤ x ∧ ln x ≤ 4096 ∧ ng x = false := by
  obtain ⟨o1, o2, o3, o4, rfl⟩ := h
  have hb := pc_bound o4
  obtain ⟨q, hq⟩ : ∃ q : Nat, min i.toNat t.size = q := ⟨_, rfl⟩
  have hq9 : q ≤ 4096 := by omega
  rw [hq] at hb ⊢
  refine ⟨hb.1, ?_, by unfold ng; exact decide_eq_false (by omega)⟩
  refine Nat.le_trans (ln_bound _ q ?_) hq9
  have e : (((pc t 0 q).natAbs : Nat) : Int) = pc t 0 q := by omega
  have h1 : (((pc t 0 q).natAbs : Nat) : Int) < ((10 ^ q : Nat) : Int) := by rw [e]; simpa using hb.2
  have h2 : (10 : Nat) ^ q ≤ 4294967296 ^ q := Nat.pow_le_pow_left (by omega) q
  omega
theorem ln_small {s : Int} (h0 : 0 ≤ s) (h1 : s < 4294967296) : ln s ≤ 1 := ln_bound s 1 (by omega)
theorem ln_mul_le {x s : Int} (k : Nat) (hx : ln x ≤ k) (hs : ln s ≤ 1) : ln (x * s) ≤ k + 1 := by
  refine ln_bound _ _ ?_
  rw [Int.natAbs_mul, Nat.pow_succ]
  have h1 := Nat.lt_of_lt_of_le (ln_lt x) (pow_le_nat hx)
  have h2 := Nat.lt_of_lt_of_le (ln_lt s) (pow_le_nat hs)
  rw [Nat.pow_one] at h2
  exact Nat.mul_lt_mul_of_lt_of_lt h1 h2
theorem bad_dig {t : ByteArray} {p : Nat} (hp : p < t.size) (h : bt t (p : Int) < 48 ∨ 57 < bt t (p : Int)) (neg : Bool) : parseT t neg 0 3 := by
  refine .inr ⟨fun hd => ?_, rfl, rfl⟩
  have := hd p (by omega) (by omega)
  unfold Dig at this
  omega

/-- It returns an integer and an error's number. -/
def RetPa (w : World) (m err : Int) (e : Ending) (w' : World) : Prop :=
  ∃ A c, e = .returned (.tuple #[.agg #[.bool (ng m), .slice A (ln m) c], .int .i64 err]) ∧ (bw A c m).at w' (fun k => w.heap.size ≤ k) ∧ Below w.heap.size w w'

/-- strings.CutPrefix of "-". -/
def cutS (s : ByteArray) : ByteArray := ⟨(Lib.trimPrefix s.data.toList [45]).toArray⟩
def cutB (s : ByteArray) : Bool := Lib.hasPrefix s.data.toList [45]
theorem Cut_ok (s t : ByteArray) (b : Bool) (ht : cutS s = t) (hb : cutB s = b) (w : World) : Calls Try.prog 74 #[.string s, .string ⟨#[45]⟩] w fun e w' => e = .returned (.tuple #[.string t, .bool b]) ∧ w = w' := by
  subst ht hb
  exact (Try.strings_CutPrefix s ⟨#[45]⟩ w).mono fun e w' h => ⟨h.1, h.2.symm⟩

end Go.Proofs.Ytdkapdgbfejgdaa
