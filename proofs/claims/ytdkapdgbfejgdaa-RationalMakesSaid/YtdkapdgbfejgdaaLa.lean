/- bigint.long: what stands around its loops. -/
import Derived.Test.YtdkapdgbfejgdaaY8
import Derived.Test.YtdkapdgbfejgdaaQ26
import Derived.Test.YtdkapdgbfejgdaaYc
import Derived.Lib.EndianBits
/- Long division of numbers in digits: the plain arithmetic. -/
set_option linter.unusedVariables false
set_option linter.unusedSimpArgs false
namespace Go.Proofs.Ytdkapdgbfejgdaa

theorem mul_mono {a b c : Int} (h : a ≤ b) (hc : 0 ≤ c) : a * c ≤ b * c := Int.mul_le_mul_of_nonneg_right h hc
theorem lt_of_mul {a b c : Int} (hc : 0 < c) (h : a * c < b * c) : a < b := Int.lt_of_mul_lt_mul_right h (by omega)

/-- The guess is too great. -/
theorem guess_great {g r v1 v2 Vl top u0 Wl P : Int} (hP : 0 < P) (hVl : 0 ≤ Vl) (hWl : Wl < P) (hg : 0 ≤ g) (hgr : g * v1 + r = top) (ht : r * 4294967296 + u0 < g * v2) :
    (top * 4294967296 + u0) * P + Wl < g * ((v1 * 4294967296 + v2) * P + Vl) := by
  have e1 : g * ((v1 * 4294967296 + v2) * P + Vl) = (g * v1 * 4294967296 + g * v2) * P + g * Vl := by
    rw [Int.mul_add, ← Int.mul_assoc, Int.mul_add, Int.mul_assoc g v1]
  have e2 : 0 ≤ g * Vl := Int.mul_nonneg hg hVl
  have e3 : (top * 4294967296 + u0 + 1) * P ≤ (g * v1 * 4294967296 + g * v2) * P := mul_mono (by omega) (by omega)
  have e4 : (top * 4294967296 + u0 + 1) * P = (top * 4294967296 + u0) * P + P := by rw [Int.add_mul, Int.one_mul]
  omega
/-- The guess is too great by one at most. -/
theorem guess_near {g r v1 v2 Vl top u0 Wl P V : Int} (hP : 0 < P) (hVl : 0 ≤ Vl) (hVl2 : Vl < P) (hWl : 0 ≤ Wl) (hg : 0 ≤ g) (hg2 : g < 4294967296) (hgr : g * v1 + r = top) (hv1 : 1 ≤ v1) (hv2 : 0 ≤ v2) (ht : g * v2 ≤ r * 4294967296 + u0)
    (hV : V = (v1 * 4294967296 + v2) * P + Vl) :
    g * V < (top * 4294967296 + u0) * P + Wl + V := by
  have e1 : g * V = (g * v1 * 4294967296 + g * v2) * P + g * Vl := by
    rw [hV, Int.mul_add, ← Int.mul_assoc, Int.mul_add, Int.mul_assoc g v1]
  have e3 : (g * v1 * 4294967296 + g * v2) * P ≤ (top * 4294967296 + u0) * P := mul_mono (by omega) (by omega)
  have e5 : g * Vl ≤ 4294967295 * P := by
    have h1 : g * Vl ≤ 4294967295 * Vl := mul_mono (by omega) hVl
    omega
  have e6 : (1 * 4294967296) * P ≤ (v1 * 4294967296 + v2) * P := mul_mono (by omega) (by omega)
  omega
theorem guess_small {g r v1 u2 u1 : Int} (h : g * v1 + r = u2 * 4294967296 + u1) (h2 : u2 ≤ v1) (h1 : u1 < 4294967296) (hr : 4294967296 ≤ r) (hv : 0 < v1) : g < 4294967296 := by
  refine lt_of_mul hv ?_
  rw [Int.mul_comm 4294967296]
  have : u2 * 4294967296 ≤ v1 * 4294967296 := mul_mono h2 (by omega)
  omega
theorem guess_first {g v1 u2 u1 : Int} (h2 : u2 ≤ v1) (h1 : u1 < 4294967296) (hv : 2147483648 ≤ v1) (hg : g * v1 ≤ u2 * 4294967296 + u1) : g ≤ 4294967297 := by
  have : u2 * 4294967296 ≤ v1 * 4294967296 := mul_mono h2 (by omega)
  have h : g * v1 < 4294967298 * v1 := by omega
  have := lt_of_mul (by omega) h
  omega
theorem top_le {u2 u1 u0 v1 v2 Vl Wl P : Int} (hP : 0 < P) (hVl2 : Vl < P) (hWl : 0 ≤ Wl) (h1 : 0 ≤ u1) (h0 : 0 ≤ u0) (hv2 : v2 < 4294967296)
    (h : ((u2 * 4294967296 + u1) * 4294967296 + u0) * P + Wl < ((v1 * 4294967296 + v2) * P + Vl) * 4294967296) : u2 ≤ v1 := by
  have e1 : ((v1 * 4294967296 + v2) * P + Vl) * 4294967296 = ((v1 * 4294967296 + v2) * 4294967296) * P + Vl * 4294967296 := by
    rw [Int.add_mul, Int.mul_right_comm]
  have e2 : ((u2 * 4294967296 + u1) * 4294967296 + u0) * P < ((v1 * 4294967296 + v2 + 1) * 4294967296) * P := by
    have e4 : ((v1 * 4294967296 + v2 + 1) * 4294967296) * P = ((v1 * 4294967296 + v2) * 4294967296) * P + 4294967296 * P := by
      rw [Int.add_mul (v1 * 4294967296 + v2) 1, Int.add_mul, Int.one_mul]
    omega
  have := lt_of_mul hP e2
  omega

/-- Guess times V is taken off U at j: i digits are done. -/
def MS (U0 V U : List Int) (j : Nat) (g : Int) (i : Nat) (cy bw : Int) : Prop :=
  U.length = U0.length ∧ Okd 4294967296 U ∧ i ≤ V.length ∧ 0 ≤ cy ∧ cy < 4294967296 ∧ 0 ≤ bw ∧ bw ≤ 1 ∧
    vl 4294967296 U = vl 4294967296 U0 - 4294967296 ^ j * (g * vl 4294967296 (V.take i)) + 4294967296 ^ (j + i) * (cy + bw) ∧ ∀ t, j + i ≤ t → U.getD t 0 = U0.getD t 0
theorem MS.start {U V : List Int} {j : Nat} {g : Int} (h : Okd 4294967296 U) : MS U V U j g 0 0 0 := ⟨rfl, h, by omega, by omega, by omega, by omega, by omega, by simp [vl], fun _ _ => rfl⟩
theorem MS.step {U0 V U : List Int} {j i : Nat} {g cy bw u v d b : Int} (h : MS U0 V U j g i cy bw) (hi : i < V.length) (hij : i + j < U.length) (hv : V.getD i 0 = v) (hu : U.getD (i + j) 0 = u) (g0 : 0 ≤ g) (g1 : g < 4294967296) (v0 : 0 ≤ v) (v1 : v < 4294967296)
    (d0 : 0 ≤ d) (d1 : d < 4294967296) (b0 : 0 ≤ b) (b1 : b ≤ 1) (hd : d = u - (g * v + cy) % 4294967296 - bw + 4294967296 * b) :
    MS U0 V (U.set (i + j) d) j g (i + 1) ((g * v + cy) / 4294967296) b := by
  obtain ⟨h1, h2, h3, h4, h5, h6, h7, h8, h9⟩ := h
  have hm : 0 ≤ g * v := Int.mul_nonneg g0 v0
  have hm2 : g * v ≤ 4294967295 * 4294967295 := by
    have a1 : g * v ≤ 4294967295 * v := mul_mono (by omega) v0
    omega
  refine ⟨by simp [h1], h2.set _ d0 d1, by omega, by omega, by omega, b0, b1, ?_, ?_⟩
  · rw [vl_set _ _ _ _ hij, hu, h8, vl_take_succ, hv, show j + (i + 1) = (j + i) + 1 by omega, Int.pow_succ, show i + j = j + i by omega]
    have e2 : (4294967296 : Int) ^ j * (g * (vl 4294967296 (List.take i V) + 4294967296 ^ i * v)) = 4294967296 ^ j * (g * vl 4294967296 (List.take i V)) + 4294967296 ^ (j + i) * (g * v) := by
      rw [Int.mul_add, Int.mul_add, Int.pow_add]
      congr 1
      rw [Int.mul_assoc, Int.mul_left_comm g]
    rw [e2]
    have e3 : (4294967296 : Int) ^ (j + i) * (d - u) = 4294967296 ^ (j + i) * 4294967296 * ((g * v + cy) / 4294967296 + b) - 4294967296 ^ (j + i) * (g * v) - 4294967296 ^ (j + i) * (cy + bw) := by
      rw [Int.mul_assoc, ← Int.mul_sub, ← Int.mul_sub]
      congr 1
      omega
    omega
  · intro t ht
    rw [getD_set_ne _ _ _ _ (by omega)]
    exact h9 t (by omega)
theorem MS.last {U0 V U : List Int} {j : Nat} {g cy bw u d b : Int} (h : MS U0 V U j g V.length cy bw) (hj : j + V.length < U.length) (hu : U.getD (j + V.length) 0 = u) (d0 : 0 ≤ d) (d1 : d < 4294967296) (hd : d = u - cy - bw + 4294967296 * b) :
    (U.set (j + V.length) d).length = U0.length ∧ Okd 4294967296 (U.set (j + V.length) d) ∧ vl 4294967296 (U.set (j + V.length) d) = vl 4294967296 U0 - 4294967296 ^ j * (g * vl 4294967296 V) + 4294967296 ^ (j + V.length + 1) * b ∧
      ∀ t, j + V.length < t → (U.set (j + V.length) d).getD t 0 = U0.getD t 0 := by
  obtain ⟨h1, h2, h3, h4, h5, h6, h7, h8, h9⟩ := h
  rw [List.take_of_length_le (Nat.le_refl _)] at h8
  refine ⟨by simp [h1], h2.set _ d0 d1, ?_, ?_⟩
  · rw [vl_set _ _ _ _ hj, hu, h8, Int.pow_succ]
    have e3 : (4294967296 : Int) ^ (j + V.length) * (d - u) = 4294967296 ^ (j + V.length) * 4294967296 * b - 4294967296 ^ (j + V.length) * (cy + bw) := by
      rw [Int.mul_assoc, ← Int.mul_sub]
      congr 1
      omega
    omega
  · intro t ht
    rw [getD_set_ne _ _ _ _ (by omega)]
    exact h9 t (by omega)

/-- V is laid back on U at j: i digits are done. -/
def AB (U0 V U : List Int) (j : Nat) (i : Nat) (c : Int) : Prop :=
  U.length = U0.length ∧ Okd 4294967296 U ∧ i ≤ V.length ∧ 0 ≤ c ∧ c ≤ 1 ∧
    vl 4294967296 U = vl 4294967296 U0 + 4294967296 ^ j * vl 4294967296 (V.take i) - 4294967296 ^ (j + i) * c ∧ ∀ t, j + i ≤ t → U.getD t 0 = U0.getD t 0
theorem AB.start {U V : List Int} {j : Nat} (h : Okd 4294967296 U) : AB U V U j 0 0 := ⟨rfl, h, by omega, by omega, by omega, by simp [vl], fun _ _ => rfl⟩
theorem AB.step {U0 V U : List Int} {j i : Nat} {c u v d b : Int} (h : AB U0 V U j i c) (hi : i < V.length) (hij : i + j < U.length) (hv : V.getD i 0 = v) (hu : U.getD (i + j) 0 = u)
    (d0 : 0 ≤ d) (d1 : d < 4294967296) (b0 : 0 ≤ b) (b1 : b ≤ 1) (hd : d = u + v + c - 4294967296 * b) :
    AB U0 V (U.set (i + j) d) j (i + 1) b := by
  obtain ⟨h1, h2, h3, h4, h5, h8, h9⟩ := h
  refine ⟨by simp [h1], h2.set _ d0 d1, by omega, b0, b1, ?_, ?_⟩
  · rw [vl_set _ _ _ _ hij, hu, h8, vl_take_succ, hv, show j + (i + 1) = (j + i) + 1 by omega, Int.pow_succ, show i + j = j + i by omega]
    have e2 : (4294967296 : Int) ^ j * (vl 4294967296 (List.take i V) + 4294967296 ^ i * v) = 4294967296 ^ j * vl 4294967296 (List.take i V) + 4294967296 ^ (j + i) * v := by
      rw [Int.mul_add, Int.pow_add, Int.mul_assoc]
    rw [e2]
    have e3 : (4294967296 : Int) ^ (j + i) * (d - u) = 4294967296 ^ (j + i) * v + 4294967296 ^ (j + i) * c - 4294967296 ^ (j + i) * 4294967296 * b := by
      rw [Int.mul_assoc, ← Int.mul_add, ← Int.mul_sub]
      congr 1
      omega
    omega
  · intro t ht
    rw [getD_set_ne _ _ _ _ (by omega)]
    exact h9 t (by omega)
theorem AB.last {U0 V U : List Int} {j : Nat} {c u d b : Int} (h : AB U0 V U j V.length c) (hj : j + V.length < U.length) (hu : U.getD (j + V.length) 0 = u) (d0 : 0 ≤ d) (d1 : d < 4294967296) (hd : d = u + c - 4294967296 * b) :
    (U.set (j + V.length) d).length = U0.length ∧ Okd 4294967296 (U.set (j + V.length) d) ∧ vl 4294967296 (U.set (j + V.length) d) = vl 4294967296 U0 + 4294967296 ^ j * vl 4294967296 V - 4294967296 ^ (j + V.length + 1) * b ∧
      ∀ t, j + V.length < t → (U.set (j + V.length) d).getD t 0 = U0.getD t 0 := by
  obtain ⟨h1, h2, h3, h4, h5, h8, h9⟩ := h
  rw [List.take_of_length_le (Nat.le_refl _)] at h8
  refine ⟨by simp [h1], h2.set _ d0 d1, ?_, ?_⟩
  · rw [vl_set _ _ _ _ hj, hu, h8, Int.pow_succ]
    have e3 : (4294967296 : Int) ^ (j + V.length) * (d - u) = 4294967296 ^ (j + V.length) * c - 4294967296 ^ (j + V.length) * 4294967296 * b := by
      rw [Int.mul_assoc, ← Int.mul_sub]
      congr 1
      omega
    omega
  · intro t ht
    rw [getD_set_ne _ _ _ _ (by omega)]
    exact h9 t (by omega)

end Go.Proofs.Ytdkapdgbfejgdaa

/- Long division of numbers in digits: one digit of the quotient. -/
set_option linter.unusedVariables false
set_option linter.unusedSimpArgs false
namespace Go.Proofs.Ytdkapdgbfejgdaa

theorem pow_pos (k : Nat) : (0 : Int) < 4294967296 ^ k := Int.pow_pos (by omega)
theorem okd_lt {l : List Int} (h : Okd 4294967296 l) : ∀ k, vl 4294967296 (l.take k) < 4294967296 ^ k ∧ 0 ≤ vl 4294967296 (l.take k) := by
  intro k
  induction k with
  | zero => simp [vl]
  | succ k ih =>
    rw [vl_take_succ, Int.pow_succ]
    obtain ⟨a, b⟩ := h.getD (by omega) k
    have h1 : 4294967296 ^ k * l.getD k 0 ≤ 4294967296 ^ k * 4294967295 := Int.mul_le_mul_of_nonneg_left (by omega) (by have := pow_pos k; omega)
    have h2 : 0 ≤ 4294967296 ^ k * l.getD k 0 := Int.mul_nonneg (by have := pow_pos k; omega) a
    omega
theorem vl_take_all {l : List Int} {k : Nat} (h : l.length ≤ k) : vl 4294967296 (l.take k) = vl 4294967296 l := by rw [List.take_of_length_le h]
theorem vl_take_ge {l : List Int} (h : Okd 4294967296 l) : ∀ (k d : Nat), vl 4294967296 (l.take k) ≤ vl 4294967296 (l.take (k + d)) := by
  intro k d
  induction d with
  | zero => exact Int.le_refl _
  | succ d ih =>
    rw [← Nat.add_assoc, vl_take_succ]
    have h2 : 0 ≤ 4294967296 ^ (k + d) * l.getD (k + d) 0 := Int.mul_nonneg (by have := pow_pos (k + d); omega) (h.getD (by omega) _).1
    omega
/-- The digits above are zeros where the number is small. -/
theorem zeros_above {l : List Int} (h : Okd 4294967296 l) {k : Nat} (hv : vl 4294967296 l < 4294967296 ^ k) {t : Nat} (ht : k ≤ t) : l.getD t 0 = 0 := by
  obtain ⟨a, b⟩ := h.getD (by omega) t
  by_cases h0 : l.getD t 0 = 0
  · exact h0
  · exfalso
    have h1 := vl_take_succ 4294967296 l t
    have h2 := (okd_lt h t).2
    have h3 : 4294967296 ^ t * 1 ≤ 4294967296 ^ t * l.getD t 0 := Int.mul_le_mul_of_nonneg_left (by omega) (by have := pow_pos t; omega)
    have h4 : vl 4294967296 (l.take (t + 1)) ≤ vl 4294967296 l := by
      have h5 := vl_take_ge h (t + 1) l.length
      rw [vl_take_all (l := l) (k := t + 1 + l.length) (by omega)] at h5
      exact h5
    have h6 : (4294967296 : Int) ^ k ≤ 4294967296 ^ t := pow_mono (by omega) ht
    omega
/-- Where the digits above are zeros, the number is that of the first digits. -/
theorem vl_take_zeros {l : List Int} {k : Nat} (hz : ∀ t, k ≤ t → l.getD t 0 = 0) : vl 4294967296 l = vl 4294967296 (l.take k) := by
  have : ∀ d, vl 4294967296 (l.take (k + d)) = vl 4294967296 (l.take k) := by
    intro d
    induction d with
    | zero => rfl
    | succ d ih => rw [← Nat.add_assoc, vl_take_succ, hz _ (by omega), ih]; omega
  rw [← this l.length, vl_take_all (by omega)]

/-- The division has come down to digit j. -/
def LI (A : Int) (V out U : List Int) (j : Nat) : Prop :=
  Okd 4294967296 U ∧ Okd 4294967296 out ∧ out.length + V.length = U.length ∧ j ≤ out.length ∧ vl 4294967296 U + vl 4294967296 out * vl 4294967296 V = A ∧
    vl 4294967296 U < 4294967296 ^ j * vl 4294967296 V ∧ ∀ t, t < j → out.getD t 0 = 0

/-- What the guess is made from. -/
theorem LI.head {A : Int} {V out U : List Int} {j m : Nat} (h : LI A V out U (j + 1)) (hV : Okd 4294967296 V) (hm : V.length = m + 2) {v1 v2 u2 u1 u0 : Int} (e1 : V.getD (m + 1) 0 = v1) (e2 : V.getD m 0 = v2)
    (f2 : U.getD (j + (m + 2)) 0 = u2) (f1 : U.getD (j + (m + 1)) 0 = u1) (f0 : U.getD (j + m) 0 = u0) :
    ∃ P Vl Wl : Int, 0 < P ∧ 0 ≤ Vl ∧ Vl < P ∧ 0 ≤ Wl ∧ Wl < P ∧ vl 4294967296 V = (v1 * 4294967296 + v2) * P + Vl ∧
      vl 4294967296 U / 4294967296 ^ j = ((u2 * 4294967296 + u1) * 4294967296 + u0) * P + Wl ∧ vl 4294967296 U / 4294967296 ^ j < vl 4294967296 V * 4294967296 := by
  obtain ⟨hU, ho, hl, hj, hA, hlt, hz⟩ := h
  have hVlt : vl 4294967296 V < 4294967296 ^ (m + 2) := by
    have := (okd_lt hV (m + 2)).1
    rwa [vl_take_all (by omega)] at this
  have hPj := pow_pos j
  have hPm := pow_pos m
  refine ⟨4294967296 ^ m, vl 4294967296 (V.take m), vl 4294967296 (U.take (j + m)) / 4294967296 ^ j, hPm, (okd_lt hV m).2, (okd_lt hV m).1, ?_, ?_, ?_, ?_, ?_⟩
  · exact Int.ediv_nonneg (okd_lt hU _).2 (by omega)
  · refine Int.ediv_lt_of_lt_mul hPj ?_
    have := (okd_lt hU (j + m)).1
    rwa [Int.pow_add, Int.mul_comm] at this
  · rw [← vl_take_all (show V.length ≤ m + 2 by omega), vl_take_succ, vl_take_succ, e1, e2, Int.pow_succ]
    rw [Int.add_mul, Int.mul_assoc v1, Int.mul_comm v1, Int.mul_comm v2, Int.mul_comm 4294967296 (4294967296 ^ m)]
    omega
  · have hz2 : ∀ t, j + (m + 3) ≤ t → U.getD t 0 = 0 := by
      intro t ht
      refine zeros_above hU (k := j + (m + 3)) ?_ ht
      have h1 : (4294967296 : Int) ^ (j + 1) * vl 4294967296 V < 4294967296 ^ (j + 1) * 4294967296 ^ (m + 2) := Int.mul_lt_mul_of_pos_left hVlt (pow_pos _)
      rw [← Int.pow_add, show j + 1 + (m + 2) = j + (m + 3) by omega] at h1
      omega
    have e : vl 4294967296 U = vl 4294967296 (U.take (j + m)) + ((u2 * 4294967296 + u1) * 4294967296 + u0) * 4294967296 ^ m * 4294967296 ^ j := by
      rw [vl_take_zeros hz2, show j + (m + 3) = j + (m + 2) + 1 by omega, vl_take_succ, show j + (m + 2) = j + (m + 1) + 1 by omega, vl_take_succ, show j + (m + 1) = j + m + 1 by omega, vl_take_succ]
      rw [show j + m + 1 + 1 = j + (m + 2) by omega, f2, show j + m + 1 = j + (m + 1) by omega, f1, f0]
      have p1 : (4294967296 : Int) ^ (j + m) = 4294967296 ^ m * 4294967296 ^ j := by rw [Int.pow_add, Int.mul_comm]
      have p2 : (4294967296 : Int) ^ (j + (m + 1)) = 4294967296 ^ (j + m) * 4294967296 := by rw [← Int.pow_succ]; rfl
      have p3 : (4294967296 : Int) ^ (j + (m + 2)) = 4294967296 ^ (j + m) * 4294967296 * 4294967296 := by rw [← Int.pow_succ, ← Int.pow_succ]; rfl
      have e9 : ((u2 * 4294967296 + u1) * 4294967296 + u0) * 4294967296 ^ m * 4294967296 ^ j = ((u2 * 4294967296 + u1) * 4294967296 + u0) * 4294967296 ^ (j + m) := by rw [Int.mul_assoc, ← p1]
      rw [p3, p2, e9]
      generalize (4294967296 : Int) ^ (j + m) = X
      have a1 : X * 4294967296 * u1 = X * u1 * 4294967296 := Int.mul_right_comm ..
      have a2 : X * 4294967296 * 4294967296 * u2 = X * u2 * 4294967296 * 4294967296 := by rw [Int.mul_right_comm (X * 4294967296), Int.mul_right_comm X]
      have a3 : ((u2 * 4294967296 + u1) * 4294967296 + u0) * X = X * u2 * 4294967296 * 4294967296 + X * u1 * 4294967296 + X * u0 := by
        rw [Int.add_mul, Int.mul_right_comm (u2 * 4294967296 + u1), Int.add_mul, Int.mul_right_comm u2, Int.mul_comm u2, Int.mul_comm u1, Int.mul_comm u0, Int.add_mul]
      omega
    rw [e, Int.add_mul_ediv_right _ _ (by omega), Int.add_comm]
  · refine Int.ediv_lt_of_lt_mul hPj ?_
    rw [Int.pow_succ, Int.mul_assoc, Int.mul_comm] at hlt
    rwa [Int.mul_comm (vl 4294967296 V)]

/-- The guess was right. -/
theorem LI.fit {A : Int} {V out U U1 : List Int} {j : Nat} {g : Int} (h : LI A V out U (j + 1)) (hV0 : 0 < vl 4294967296 V) (hq : vl 4294967296 U / 4294967296 ^ j / vl 4294967296 V ≤ g) (g0 : 0 ≤ g) (g1 : g < 4294967296)
    (hl : U1.length = U.length) (h1 : Okd 4294967296 U1) (hv : vl 4294967296 U1 = vl 4294967296 U - 4294967296 ^ j * (g * vl 4294967296 V)) : LI A V (out.set j g) U1 j := by
  obtain ⟨hU, ho, hll, hj, hA, hlt, hz⟩ := h
  have hPj := pow_pos j
  have hn : 0 ≤ vl 4294967296 U1 := by have := (okd_lt h1 U1.length).2; rwa [vl_take_all (Nat.le_refl _)] at this
  have hsub : g - vl 4294967296 U / 4294967296 ^ j / vl 4294967296 V ≤ 0 := by
    have h2 : g * vl 4294967296 V * 4294967296 ^ j ≤ vl 4294967296 U := by rw [Int.mul_comm (g * _)]; omega
    have h3 : g * vl 4294967296 V ≤ vl 4294967296 U / 4294967296 ^ j := (Int.le_ediv_iff_mul_le hPj).mpr h2
    have h4 := (Int.le_ediv_iff_mul_le hV0).mpr h3
    omega
  have hg : g = vl 4294967296 U / 4294967296 ^ j / vl 4294967296 V := by omega
  refine ⟨h1, ho.set _ g0 g1, by simp [hll, hl], by simp; omega, ?_, ?_, ?_⟩
  · rw [vl_set _ _ _ _ (by omega), hz _ (by omega), hv, Int.add_mul, Int.sub_zero, Int.mul_assoc]
    omega
  · have h5 : vl 4294967296 U / 4294967296 ^ j < (g + 1) * vl 4294967296 V := by
      have := Int.lt_ediv_add_one_mul_self (vl 4294967296 U / 4294967296 ^ j) hV0
      rwa [← hg] at this
    have h6 := Int.lt_ediv_add_one_mul_self (vl 4294967296 U) hPj
    have h7 : (vl 4294967296 U / 4294967296 ^ j + 1) * 4294967296 ^ j ≤ (g + 1) * vl 4294967296 V * 4294967296 ^ j := mul_mono (by omega) (by omega)
    rw [hv]
    have h8 : (g + 1) * vl 4294967296 V * 4294967296 ^ j = 4294967296 ^ j * (g * vl 4294967296 V) + 4294967296 ^ j * vl 4294967296 V := by
      rw [Int.add_mul, Int.one_mul, Int.mul_comm, Int.mul_add]
    omega
  · intro t ht
    rw [getD_set_ne _ _ _ _ (by omega)]
    exact hz t (by omega)

/-- The guess was one too great. -/
theorem LI.back {A : Int} {V out U U1 U2 : List Int} {j : Nat} {g b : Int} (h : LI A V out U (j + 1)) (hV : Okd 4294967296 V) (hV0 : 0 < vl 4294967296 V) (hq : g - 1 ≤ vl 4294967296 U / 4294967296 ^ j / vl 4294967296 V) (g0 : 1 ≤ g) (g1 : g < 4294967296)
    (hl1 : U1.length = U.length) (ok1 : Okd 4294967296 U1) (hz1 : ∀ t, j + V.length < t → U1.getD t 0 = U.getD t 0) (hv1 : vl 4294967296 U1 = vl 4294967296 U - 4294967296 ^ j * (g * vl 4294967296 V) + 4294967296 ^ (j + V.length + 1))
    (hl2 : U2.length = U1.length) (ok2 : Okd 4294967296 U2) (hz2 : ∀ t, j + V.length < t → U2.getD t 0 = U1.getD t 0) (hb : 0 ≤ b) (hb1 : b ≤ 1) (hv2 : vl 4294967296 U2 = vl 4294967296 U1 + 4294967296 ^ j * vl 4294967296 V - 4294967296 ^ (j + V.length + 1) * b) :
    LI A V (out.set j (g - 1)) U2 j := by
  have h' := h
  obtain ⟨hU, ho, hll, hj, hA, hlt, hz⟩ := h
  have hPj := pow_pos j
  have hVlt : vl 4294967296 V < 4294967296 ^ V.length := by
    have := (okd_lt hV V.length).1
    rwa [vl_take_all (Nat.le_refl _)] at this
  have hUz : ∀ t, j + V.length < t → U.getD t 0 = 0 := by
    intro t ht
    refine zeros_above hU (k := j + V.length + 1) ?_ (by omega)
    have h1 : (4294967296 : Int) ^ (j + 1) * vl 4294967296 V < 4294967296 ^ (j + 1) * 4294967296 ^ V.length := Int.mul_lt_mul_of_pos_left hVlt (pow_pos _)
    rw [← Int.pow_add, show j + 1 + V.length = j + V.length + 1 by omega] at h1
    omega
  have lt2 : vl 4294967296 U2 < 4294967296 ^ (j + V.length + 1) := by
    rw [vl_take_zeros (k := j + V.length + 1) (fun t ht => by rw [hz2 t (by omega), hz1 t (by omega), hUz t (by omega)])]
    exact (okd_lt ok2 _).1
  have ge2 : 0 ≤ vl 4294967296 U2 := by have := (okd_lt ok2 U2.length).2; rwa [vl_take_all (Nat.le_refl _)] at this
  have hX := pow_pos (j + V.length + 1)
  have eg : 4294967296 ^ j * (g * vl 4294967296 V) = 4294967296 ^ j * ((g - 1) * vl 4294967296 V) + 4294967296 ^ j * vl 4294967296 V := by
    rw [Int.sub_mul, Int.one_mul, ← Int.mul_add]; congr 1; omega
  have hge : 0 ≤ vl 4294967296 U - 4294967296 ^ j * ((g - 1) * vl 4294967296 V) := by
    have h3 : (g - 1) * vl 4294967296 V ≤ vl 4294967296 U / 4294967296 ^ j := (Int.le_ediv_iff_mul_le hV0).mp hq
    have h4 : (g - 1) * vl 4294967296 V * 4294967296 ^ j ≤ vl 4294967296 U := (Int.le_ediv_iff_mul_le hPj).mp h3
    rw [Int.mul_comm ((g - 1) * _)] at h4
    omega
  have hb' : b = 1 := by
    by_cases h0 : b = 0
    · exfalso
      rw [h0, Int.mul_zero] at hv2
      omega
    · omega
  rw [hb', Int.mul_one] at hv2
  have hv : vl 4294967296 U2 = vl 4294967296 U - 4294967296 ^ j * ((g - 1) * vl 4294967296 V) := by omega
  have hq2 : vl 4294967296 U / 4294967296 ^ j / vl 4294967296 V ≤ g - 1 := by
    have hv1' : vl 4294967296 U1 < 4294967296 ^ (j + V.length + 1) := by
      rw [vl_take_zeros (k := j + V.length + 1) (fun t ht => by rw [hz1 t (by omega), hUz t (by omega)])]
      exact (okd_lt ok1 _).1
    have h5 : vl 4294967296 U < g * vl 4294967296 V * 4294967296 ^ j := by rw [Int.mul_comm (g * _)]; omega
    have h6 : vl 4294967296 U / 4294967296 ^ j < g * vl 4294967296 V := Int.ediv_lt_of_lt_mul hPj h5
    have h7 : vl 4294967296 U / 4294967296 ^ j / vl 4294967296 V < g := Int.ediv_lt_of_lt_mul hV0 h6
    omega
  exact h'.fit hV0 hq2 (by omega) (by omega) (by rw [hl2, hl1]) ok2 hv
/-- No borrow: the guess was not too great; a borrow: it was. -/
theorem LI.borrow {A : Int} {V out U U1 : List Int} {j : Nat} {g b : Int} (h : LI A V out U (j + 1)) (hv1 : vl 4294967296 U1 = vl 4294967296 U - 4294967296 ^ j * (g * vl 4294967296 V) + 4294967296 ^ (j + V.length + 1) * b) (hb : b = 0) :
    vl 4294967296 U1 = vl 4294967296 U - 4294967296 ^ j * (g * vl 4294967296 V) := by rw [hv1, hb]; omega
theorem LI.done {A : Int} {V out U : List Int} (h : LI A V out U 0) (hV0 : 0 < vl 4294967296 V) : vl 4294967296 out = A / vl 4294967296 V ∧ vl 4294967296 U = A % vl 4294967296 V := by
  obtain ⟨hU, ho, hll, hj, hA, hlt, hz⟩ := h
  have hn : 0 ≤ vl 4294967296 U := by have := (okd_lt hU U.length).2; rwa [vl_take_all (Nat.le_refl _)] at this
  rw [Int.pow_zero, Int.one_mul] at hlt
  have e1 : A / vl 4294967296 V = vl 4294967296 out := by
    rw [← hA, Int.add_mul_ediv_right _ _ (by omega), Int.ediv_eq_zero_of_lt hn hlt, Int.zero_add]
  have e2 := Int.mul_ediv_add_emod A (vl 4294967296 V)
  rw [e1, Int.mul_comm] at e2
  exact ⟨e1.symm, by omega⟩

end Go.Proofs.Ytdkapdgbfejgdaa

/- bigint.shift: the digits of a times a power of two. -/
set_option linter.unusedVariables false
set_option linter.unusedSimpArgs false
namespace Go.Proofs.Ytdkapdgbfejgdaa
open Go.RowKit Go.Proofs.YtdkapdgbfejgdaaW.PrintWords Go.Proofs.YtdkapdgbfejgdaaW.PrintLast Go.Proofs.YtdkapdgbfejgdaaW.PrintMore
open Go.Proofs.Ytdkapdgbfejgdaa.P

theorem u32_id {n : Int} (h0 : 0 ≤ n) (h1 : n < 4294967296) : IntKind.u32.wrap n = n := by rw [IntKind.wrap_u32]; exact Int.emod_eq_of_lt h0 h1
/-- i digits are shifted by s. -/
def ShIn (l o : List Int) (s i : Nat) : Prop :=
  o.length = l.length + 1 ∧ Okd 4294967296 o ∧ i ≤ l.length ∧ vl 4294967296 o = vl 4294967296 (l.take i) * 2 ^ s ∧ o.getD i 0 < 2 ^ s ∧ ∀ t, i < t → o.getD t 0 = 0
theorem ShIn.step {l o : List Int} {s i : Nat} {d u : Int} (h : ShIn l o s i) (hl : Okd 4294967296 l) (hs : s ≤ 31) (hi : i < l.length) (hd : l.getD i 0 = d) (hu : o.getD i 0 = u) :
    ShIn l ((o.set i (u + d * 2 ^ s % 4294967296)).set (i + 1) (d * 2 ^ s / 4294967296)) s (i + 1) ∧ u + d * 2 ^ s % 4294967296 < 4294967296 := by
  obtain ⟨h1, h2, h3, h4, h5, h6⟩ := h
  have hd0 := hl.getD (by omega) i
  rw [hd] at hd0
  have hu0 := h2.getD (by omega) i
  rw [hu] at hu0 h5
  have hp : (0 : Int) < 2 ^ s := Int.pow_pos (by omega)
  have hw0 : 0 ≤ d * 2 ^ s := Int.mul_nonneg hd0.1 (by omega)
  have hw1 : d * 2 ^ s < 4294967296 * 2 ^ s := Int.mul_lt_mul_of_pos_right hd0.2 hp
  obtain ⟨q, hq⟩ : ∃ q : Nat, q = 32 - s := ⟨_, rfl⟩
  have hB : (4294967296 : Int) = 2 ^ q * 2 ^ s := by
    rw [← Int.pow_add, show q + s = 32 by omega]; rfl
  have hmod : d * 2 ^ s % 4294967296 = (d % 2 ^ q) * 2 ^ s := by
    rw [Int.mul_comm d, hB, Int.mul_comm (2 ^ q), Int.mul_emod_mul_of_pos _ _ hp, Int.mul_comm]
  have hq0 : (0 : Int) < 2 ^ q := Int.pow_pos (by omega)
  have hm1 : d % 2 ^ q + 1 ≤ 2 ^ q := Int.emod_lt_of_pos d hq0
  have hfit : u + d * 2 ^ s % 4294967296 < 4294967296 := by
    have h7 : (d % 2 ^ q + 1) * 2 ^ s ≤ 2 ^ q * 2 ^ s := mul_mono hm1 (by omega)
    rw [Int.add_mul, Int.one_mul, ← hmod, ← hB] at h7
    omega
  have hdiv : d * 2 ^ s / 4294967296 < 2 ^ s := Int.ediv_lt_of_lt_mul (by omega) (by rw [Int.mul_comm (2 ^ s)]; exact hw1)
  have hdiv0 : 0 ≤ d * 2 ^ s / 4294967296 := Int.ediv_nonneg hw0 (by omega)
  have hdiv2 : d * 2 ^ s / 4294967296 < 4294967296 := by
    have h8 : (2 : Int) ^ s ≤ 2 ^ 31 := pow_mono (by omega) hs
    have h9 : (2 : Int) ^ 31 = 2147483648 := rfl
    omega
  refine ⟨⟨by simp [h1], (h2.set _ (by omega) hfit).set _ hdiv0 hdiv2, by omega, ?_, ?_, ?_⟩, hfit⟩
  · rw [vl_set _ _ _ _ (by simp; omega), vl_set _ _ _ _ (by omega), getD_set_ne _ _ _ _ (by omega), h6 (i + 1) (by omega), hu, h4, vl_take_succ, hd, Int.add_mul, Int.pow_succ]
    have e1 : (4294967296 : Int) ^ i * (u + d * 2 ^ s % 4294967296 - u) + 4294967296 ^ i * 4294967296 * (d * 2 ^ s / 4294967296 - 0) = 4294967296 ^ i * d * 2 ^ s := by
      rw [Int.mul_assoc (4294967296 ^ i) 4294967296, ← Int.mul_add, Int.mul_assoc]
      congr 1
      omega
    omega
  · rw [List.getD_eq_getElem?_getD, List.getElem?_set_self (by simp; omega)]
    exact hdiv
  · intro t ht
    rw [getD_set_ne _ _ _ _ (by omega), getD_set_ne _ _ _ _ (by omega)]
    exact h6 t (by omega)

theorem shl64 {d : Int} {s : Nat} (d0 : 0 ≤ d) (d1 : d < 4294967296) (hs : s ≤ 31) : shl .u64 (IntKind.u64.wrap d) (s : Int) = d * 2 ^ s := by
  have hp : (0 : Int) < 2 ^ s := Int.pow_pos (by omega)
  have h8 : (2 : Int) ^ s ≤ 2 ^ 31 := pow_mono (by omega) hs
  have h9 : (2 : Int) ^ 31 = 2147483648 := rfl
  have hw1 : d * 2 ^ s < 4294967296 * 2 ^ s := Int.mul_lt_mul_of_pos_right d1 hp
  rw [u64_id d0 (by omega)]
  have h := shl_small (k := .u64) (x := d) (y := (s : Int)) rfl (by show (s : Int) ≤ 64; omega)
  rw [← h, Int.toNat_natCast]
  exact u64_id (Int.mul_nonneg d0 (by omega)) (by omega)
theorem or32 {u d : Int} {s : Nat} (u0 : 0 ≤ u) (u1 : u < 2 ^ s) (hs : s ≤ 31) (d0 : 0 ≤ d) (d1 : d < 4294967296) : Go.bits .or .u32 u (d * 2 ^ s % 4294967296) = u + d * 2 ^ s % 4294967296 := by
  have hp : (0 : Int) < 2 ^ s := Int.pow_pos (by omega)
  have h8 : (2 : Int) ^ s ≤ 2 ^ 31 := pow_mono (by omega) hs
  have h9 : (2 : Int) ^ 31 = 2147483648 := rfl
  obtain ⟨q, hq⟩ : ∃ q : Nat, q = 32 - s := ⟨_, rfl⟩
  have hB : (4294967296 : Int) = 2 ^ q * 2 ^ s := by
    rw [← Int.pow_add, show q + s = 32 by omega]; rfl
  have hmod : d * 2 ^ s % 4294967296 = 2 ^ s * (d % 2 ^ q) := by
    rw [Int.mul_comm d, hB, Int.mul_comm (2 ^ q), Int.mul_emod_mul_of_pos _ _ hp]
  have a1 : u < 4294967296 := by omega
  have a2 : d * 2 ^ s % 4294967296 < 4294967296 := by omega
  have a3 : 0 ≤ d * 2 ^ s % 4294967296 := by omega
  refine bits_join_low .u32 32 (by decide) (fun n h0 h1 => u32_id h0 h1) s u (d * 2 ^ s % 4294967296) u0 u1 a1 a3 ?_ a2
  rw [hmod]; exact Int.mul_emod_right _ _

theorem ShIn.carry {d : Int} {s : Nat} (d0 : 0 ≤ d) (d1 : d < 4294967296) (hs : s ≤ 31) : d * 2 ^ s / 4294967296 % 4294967296 = d * 2 ^ s / 4294967296 := by
  have hp : (0 : Int) < 2 ^ s := Int.pow_pos (by omega)
  have h8 : (2 : Int) ^ s ≤ 2 ^ 31 := pow_mono (by omega) hs
  have h9 : (2 : Int) ^ 31 = 2147483648 := rfl
  have hw1 : d * 2 ^ s < 4294967296 * 2 ^ s := Int.mul_lt_mul_of_pos_right d1 hp
  have hw0 : 0 ≤ d * 2 ^ s := Int.mul_nonneg d0 (by omega)
  omega
theorem shift_l0 (l : List Int) (s : Nat) (hl : Okd 4294967296 l) (hs : s ≤ 31) (hn : l.length ≤ 100000000) : ∀ n i k o, i + n = l.length → ShIn l o s i → n < k → ∃ o', bigint_shift.l0 k (s : Int) o l (l.length : Int) (i : Int) = some o' ∧ ShIn l o' s l.length := by
  intro n
  induction n with
  | zero =>
    intro i k o hi h hk
    obtain ⟨k, rfl⟩ : ∃ j, k = j + 1 := ⟨k - 1, by omega⟩
    refine ⟨o, ?_, by rw [← hi]; exact h⟩
    simp only [bigint_shift.l0]
    rw [if_neg (by omega)]
  | succ n ih =>
    intro i k o hi h hk
    obtain ⟨k, rfl⟩ : ∃ j, k = j + 1 := ⟨k - 1, by omega⟩
    have hi' : i < l.length := by omega
    have ho := h.1
    have c1 : (i : Int) < (l.length : Int) := by omega
    have c2 : (0 : Int) ≤ (i : Int) := by omega
    have c3 : (0 : Int) ≤ (s : Int) := by omega
    have c4 : (i : Int) < (o.length : Int) := by omega
    have c5 : (0 : Int) ≤ ((i + 1 : Nat) : Int) := by omega
    have c6 : ((i + 1 : Nat) : Int) < (o.length : Int) := by omega
    have c7 : i + 1 + n = l.length := by omega
    have c8 : n < k := by omega
    obtain ⟨d, hd⟩ : ∃ d, l.getD i 0 = d := ⟨_, rfl⟩
    obtain ⟨u, hu⟩ : ∃ u, o.getD i 0 = u := ⟨_, rfl⟩
    have hd0 := hl.getD (by omega) i
    have hu0 := h.2.1.getD (by omega) i
    have hu1 := h.2.2.2.2.1
    rw [hd] at hd0
    rw [hu] at hu0 hu1
    have hw : wrap64 ((i : Int) + 1) = ((i + 1 : Nat) : Int) := by unfold wrap64; omega
    have r1 : rd l (i : Int) = d := by unfold rd; rw [Int.toNat_natCast]; exact hd
    have r2 : rd o (i : Int) = u := by unfold rd; rw [Int.toNat_natCast]; exact hu
    obtain ⟨st, hf⟩ := ShIn.step (d := d) (u := u) h hl hs hi' hd hu
    have ih' := ih (i + 1) k _ c7 st c8
    have hdl : d * 2 ^ s / 4294967296 % 4294967296 = d * 2 ^ s / 4294967296 := ShIn.carry hd0.1 hd0.2 hs
    have e1 := shl64 hd0.1 hd0.2 hs
    have e2 := or32 hu0.1 hu1 hs hd0.1 hd0.2
    simp only [bigint_shift.l0]
    rw [if_pos c1, if_pos c2, if_pos c1, if_pos c3, if_pos c4, hw, if_pos c5, if_pos c6, r1, r2, e1, e2, hdl, Int.toNat_natCast, Int.toNat_natCast]
    exact ih'
theorem shift_f (l : List Int) (s : Nat) (hl : Okd 4294967296 l) (hs : s ≤ 31) (hn : l.length ≤ 100000000) : ∃ k o, bigint_shift.f k l (s : Int) = some o ∧ o.length = l.length + 1 ∧ Okd 4294967296 o ∧ vl 4294967296 o = vl 4294967296 l * 2 ^ s := by
  have hp : (0 : Int) < 2 ^ s := Int.pow_pos (by omega)
  have h0 : ShIn l (List.replicate (l.length + 1) 0) s 0 := by
    refine ⟨by simp, Okd.replicate (by omega) _, by omega, by rw [vl_replicate]; simp [vl], ?_, ?_⟩
    · simp; exact hp
    · intro t _
      rw [List.getD_eq_getElem?_getD, List.getElem?_replicate]
      split <;> rfl
  obtain ⟨o, h1, h2⟩ := shift_l0 l s hl hs hn l.length 0 (l.length + 1) _ (by omega) h0 (by omega)
  refine ⟨l.length + 1, o, ?_, h2.1, h2.2.1, ?_⟩
  · unfold bigint_shift.f
    have hw : wrap64 ((l.length : Int) + 1) = ((l.length + 1 : Nat) : Int) := by unfold wrap64; omega
    rw [hw, if_pos (by omega), Int.toNat_natCast, if_pos (by omega)]
    exact h1
  · have := h2.2.2.2.1
    rwa [List.take_of_length_le (Nat.le_refl _)] at this

end Go.Proofs.Ytdkapdgbfejgdaa

/- bigint.long: what stands around its loops. -/
set_option linter.unusedVariables false
set_option linter.unusedSimpArgs false
namespace Go.Proofs.Ytdkapdgbfejgdaa
open Go.RowKit Go.Proofs.YtdkapdgbfejgdaaW.PrintWords Go.Proofs.YtdkapdgbfejgdaaW.PrintLast Go.Proofs.YtdkapdgbfejgdaaW.PrintMore
open Go.Proofs.Ytdkapdgbfejgdaa.P

theorem box_of_own {w : World} {base : Nat} {v : Value} {l : List Int} (h : w.ownsRow base 93 1 v l.length (encs (Value.int .u32) l)) (hl : 0 < l.length) :
    ∃ g cu tl, v = .slice (some ⟨g, 0, none⟩) l.length cu ∧ base ≤ g ∧ w.heap[g]? = some (.cells (l.map (Value.int .u32) ++ tl).toArray 93 (0, 0)) ∧ l.length ≤ cu := by
  rcases h.2 with ⟨_, h0⟩ | ⟨g, cap, cur, rfl, hg, hh, hc, _, hs, ht⟩
  · omega
  · refine ⟨g, cap, cur.toList.drop l.length, rfl, hg, ?_, hc⟩
    rw [Nat.mul_one] at ht
    rw [show List.map (Value.int .u32) l = cur.toList.take l.length from ht.symm, List.take_append_drop]
    simpa using hh
/-- shift hands back a block of its own. -/
theorem shift_box {k : Nat} {A : Option Addr} {c : Nat} {l : List Int} {s : Int} {o : List Int} {w : World} {ok : Nat → Prop} (hf : (⟨.u32, A, c, l⟩ : Rw).at w ok) (h : bigint_shift.f k l s = some o) (a : Nat) (ha : l.length = a) (n : Nat) (hn : o.length = n) (hl : 0 < n) :
    Calls Try.prog 101 #[.slice A a c, .int .i64 s] w fun e w' => ∃ g cu tl, e = .returned (.slice (some ⟨g, 0, none⟩) n cu) ∧ w.heap.size ≤ g ∧ w'.heap[g]? = some (.cells (o.map (Value.int .u32) ++ tl).toArray 93 (0, 0)) ∧ n ≤ cu ∧ Below w.heap.size w w' := by
  subst hn
  subst ha
  refine (bigint_shift.calls k A c l s o w (Kd.F_now hf.2) hf.1 h).mono ?_
  rintro e w' ⟨v, rfl, hR, hb⟩
  obtain ⟨g, cu, tl, rfl, hg, hh, hc⟩ := box_of_own (Kd.own_of_R hR) hl
  exact ⟨g, cu, tl, rfl, hg, hh, hc, hb⟩
/-- A call has handed back a block of its own. -/
theorem Sit.gotbox {w0 w w' : World} {ok : Nat → Prop} {bs : List (Nat × Obj)} {fs : List Rw} (h : Sit w0 w ok bs fs) {g : Nat} (hg : w.heap.size ≤ g) {o : Obj} (hbox : w'.heap[g]? = some o) (hb : Below w.heap.size w w') : Sit w0 w' ok ((g, o) :: bs) fs := by
  refine ⟨below_step h.below hb, ?_, ?_, ?_⟩
  · rw [List.map_cons, List.nodup_cons]
    refine ⟨?_, h.nd⟩
    intro hm
    obtain ⟨b, hb', e⟩ := List.mem_map.mp hm
    have := blk_lt (h.box b hb').1
    simp only at e
    omega
  · intro b hm
    rcases List.mem_cons.mp hm with rfl | hm
    · exact ⟨hbox, Nat.le_trans (below_size h.below) hg⟩
    · exact ⟨blk_below (h.box b hm).1 hb, (h.box b hm).2⟩
  · intro f hm
    refine ⟨(h.row f hm).1, Kd.F_mono (Kd.F_below (Kd.F_elderB (h.row f hm).2 g hg) hb) ?_⟩
    rintro k ⟨h1, h2⟩
    refine ⟨?_, h1.2⟩
    intro b hb
    rcases List.mem_cons.mp hb with rfl | hb
    · exact h2
    · exact h1.1 b hb
theorem Sit.perm {w0 w : World} {ok : Nat → Prop} {bs bs' : List (Nat × Obj)} {fs : List Rw} (h : Sit w0 w ok bs fs) (hp : bs.Perm bs') : Sit w0 w ok bs' fs := by
  refine ⟨h.below, (hp.map _).nodup_iff.mp h.nd, fun b hb => h.box b (hp.mem_iff.mpr hb), fun f hf => ?_⟩
  exact (h.row f hf).mono (fun k hk => ⟨fun b hb => hk.1 b (hp.mem_iff.mpr hb), hk.2⟩)
/-- The same at other rows: fewer. -/
theorem Sit.norows {w0 w : World} {ok : Nat → Prop} {bs : List (Nat × Obj)} {fs : List Rw} (h : Sit w0 w ok bs fs) : Sit w0 w ok bs [] := ⟨h.below, h.nd, h.box, by simp⟩

/-! ### numbers -/
theorem lz_ok {d : Int} (h : 1 ≤ d) (h2 : d < 4294967296) : ∃ s : Nat, s ≤ 31 ∧ (32 - (Lib.bitLen d.toNat : Int)) = s ∧ 2147483648 ≤ d * 2 ^ s ∧ (d + 1) * 2 ^ s ≤ 4294967296 := by
  obtain ⟨t, rfl⟩ := Int.eq_ofNat_of_zero_le (show 0 ≤ d by omega)
  obtain ⟨x, y, z⟩ := Lib.bitLenAux_bounds 64 t (by omega) (by omega)
  have hb : Lib.bitLen t ≤ 32 := Lib.bitLen_le t 32 (by omega) (by omega)
  have e : Lib.bitLenAux 64 t = Lib.bitLen t := rfl
  rw [e] at x y z
  show ∃ s : Nat, s ≤ 31 ∧ (32 - (Lib.bitLen t : Int)) = s ∧ 2147483648 ≤ (t : Int) * 2 ^ s ∧ ((t : Int) + 1) * 2 ^ s ≤ 4294967296
  obtain ⟨b, hb'⟩ : ∃ b, Lib.bitLen t = b := ⟨_, rfl⟩
  rw [hb'] at x y z hb ⊢
  have hb1 : 1 ≤ b := by
    cases b with
    | zero => simp at z; omega
    | succ b => omega
  refine ⟨32 - b, by omega, by omega, ?_, ?_⟩
  · have h1 : ((2 : Int) ^ (b - 1)) ≤ (t : Int) := by exact_mod_cast y
    have h2 : (2 : Int) ^ (b - 1) * 2 ^ (32 - b) ≤ (t : Int) * 2 ^ (32 - b) := mul_mono h1 (Int.le_of_lt (Int.pow_pos (by omega)))
    rw [← Int.pow_add, show b - 1 + (32 - b) = 31 by omega] at h2
    exact h2
  · have h1 : ((t : Int) + 1) ≤ 2 ^ b := by exact_mod_cast z
    have h2 : ((t : Int) + 1) * 2 ^ (32 - b) ≤ 2 ^ b * 2 ^ (32 - b) := mul_mono h1 (Int.le_of_lt (Int.pow_pos (by omega)))
    rw [← Int.pow_add, show b + (32 - b) = 32 by omega] at h2
    exact h2

theorem norm_ok {l l2 U V1 : List Int} {s n : Nat} {d : Int} (hl : Okd 4294967296 l) (hl2 : Okd 4294967296 l2) (hn : l2.length = n + 1) (hle : n + 1 ≤ l.length) (hd : l2.getD n 0 = d) (hs : s ≤ 31) (hd1 : 2147483648 ≤ d * 2 ^ s) (hd2 : (d + 1) * 2 ^ s ≤ 4294967296)
    (u1 : U.length = l.length + 1) (u2 : Okd 4294967296 U) (u3 : vl 4294967296 U = vl 4294967296 l * 2 ^ s) (v1 : V1.length = l2.length + 1) (v2 : Okd 4294967296 V1) (v3 : vl 4294967296 V1 = vl 4294967296 l2 * 2 ^ s) :
    vl 4294967296 (V1.take (n + 1)) = vl 4294967296 l2 * 2 ^ s ∧ 2147483648 ≤ V1.getD n 0 ∧ LI (vl 4294967296 U) (V1.take (n + 1)) (List.replicate (l.length - n) 0) U (l.length - n) := by
  have hp : (0 : Int) < 2 ^ s := Int.pow_pos (by omega)
  have hX := pow_pos n
  have e2 : vl 4294967296 l2 = vl 4294967296 (l2.take n) + 4294967296 ^ n * d := by
    rw [← vl_take_all (show l2.length ≤ n + 1 by omega), vl_take_succ, hd]
  have b2 := okd_lt hl2 n
  have lt2 : vl 4294967296 l2 * 2 ^ s < 4294967296 ^ (n + 1) := by
    have h1 : vl 4294967296 l2 < 4294967296 ^ n * (d + 1) := by rw [Int.mul_add, Int.mul_one]; omega
    have h2 : vl 4294967296 l2 * 2 ^ s < 4294967296 ^ n * (d + 1) * 2 ^ s := Int.mul_lt_mul_of_pos_right h1 hp
    have h3 : 4294967296 ^ n * ((d + 1) * 2 ^ s) ≤ 4294967296 ^ n * 4294967296 := Int.mul_le_mul_of_nonneg_left hd2 (by omega)
    rw [Int.mul_assoc] at h2
    rw [Int.pow_succ]
    omega
  have ge2 : 4294967296 ^ n * 2147483648 ≤ vl 4294967296 l2 * 2 ^ s := by
    have h1 : 4294967296 ^ n * d ≤ vl 4294967296 l2 := by omega
    have h2 : 4294967296 ^ n * d * 2 ^ s ≤ vl 4294967296 l2 * 2 ^ s := mul_mono h1 (by omega)
    have h3 : 4294967296 ^ n * 2147483648 ≤ 4294967296 ^ n * (d * 2 ^ s) := Int.mul_le_mul_of_nonneg_left hd1 (by omega)
    rw [Int.mul_assoc] at h2
    omega
  have hz : ∀ t, n + 1 ≤ t → V1.getD t 0 = 0 := fun t ht => zeros_above v2 (by rw [v3]; exact lt2) ht
  have e3 : vl 4294967296 (V1.take (n + 1)) = vl 4294967296 l2 * 2 ^ s := by rw [← vl_take_zeros hz, v3]
  refine ⟨e3, ?_, ?_⟩
  · have b3 := okd_lt v2 n
    have e4 := e3
    rw [vl_take_succ] at e4
    have h5 : 4294967296 ^ n * 2147483648 < 4294967296 ^ n * (V1.getD n 0 + 1) := by rw [Int.mul_add (4294967296 ^ n) (V1.getD n 0)]; omega
    have := Int.lt_of_mul_lt_mul_left h5 (by omega)
    omega
  · refine ⟨u2, Okd.replicate (by omega) _, by simp; omega, by simp, ?_, ?_, fun t ht => ?_⟩
    · rw [vl_replicate]; omega
    · rw [e3]
      have h1 : vl 4294967296 l < 4294967296 ^ l.length := vl_lt (by omega) hl
      have h2 : vl 4294967296 l * 2 ^ s < 4294967296 ^ l.length * 2 ^ s := Int.mul_lt_mul_of_pos_right h1 hp
      have h3 : (2 : Int) ^ s ≤ 2 ^ 31 := pow_mono (by omega) hs
      have h4 : 4294967296 ^ l.length * 2 ^ s ≤ 4294967296 ^ l.length * (2147483648 : Int) := Int.mul_le_mul_of_nonneg_left h3 (Int.le_of_lt (pow_pos _))
      have h5 : 4294967296 ^ (l.length - n) * (4294967296 ^ n * 2147483648) ≤ 4294967296 ^ (l.length - n) * (vl 4294967296 l2 * 2 ^ s) := Int.mul_le_mul_of_nonneg_left ge2 (Int.le_of_lt (pow_pos _))
      rw [← Int.mul_assoc, ← Int.pow_add, show l.length - n + n = l.length by omega] at h5
      rw [u3]
      omega
    · rw [List.getD_eq_getElem?_getD, List.getElem?_replicate]
      split <;> rfl
theorem norm_done {A1 A2 vo vu : Int} {s : Nat} (h2 : 0 < A2) (ho : vo = A1 * 2 ^ s / (A2 * 2 ^ s)) (hu : vu = A1 * 2 ^ s % (A2 * 2 ^ s)) : vo = A1 / A2 ∧ vu / 2 ^ s = A1 % A2 := by
  have hp : (0 : Int) < 2 ^ s := Int.pow_pos (by omega)
  constructor
  · rw [ho, Int.mul_comm A1, Int.mul_comm A2, Int.mul_ediv_mul_of_pos _ _ hp]
  · rw [hu, Int.mul_comm A1, Int.mul_comm A2, Int.mul_emod_mul_of_pos _ _ hp]
    exact Int.mul_ediv_cancel_left _ (by omega)

/-! ### the guess -/
def GH (W V v1 v2 u2 u1 u0 : Int) : Prop :=
  (∃ P Vl Wl : Int, 0 < P ∧ 0 ≤ Vl ∧ Vl < P ∧ 0 ≤ Wl ∧ Wl < P ∧ V = (v1 * 4294967296 + v2) * P + Vl ∧ W = ((u2 * 4294967296 + u1) * 4294967296 + u0) * P + Wl ∧ W < V * 4294967296) ∧
    2147483648 ≤ v1 ∧ v1 < 4294967296 ∧ 0 ≤ v2 ∧ v2 < 4294967296 ∧ 0 ≤ u2 ∧ u2 < 4294967296 ∧ 0 ≤ u1 ∧ u1 < 4294967296 ∧ 0 ≤ u0 ∧ u0 < 4294967296
/-- The guess and what it leaves. -/
def GS (W V v1 top g r : Int) : Prop := g * v1 + r = top ∧ 0 ≤ r ∧ W / V ≤ g ∧ g ≤ 4294967297 ∧ 0 ≤ g
section
variable {W V v1 v2 u2 u1 u0 g r : Int}
theorem GH.pos (h : GH W V v1 v2 u2 u1 u0) : 0 < V ∧ 0 ≤ W ∧ 0 ≤ W / V ∧ W / V < 4294967296 := by
  obtain ⟨⟨P, Vl, Wl, hP, a1, a2, a3, a4, rfl, rfl, a5⟩, b1, b2, b3, b4, c1, c2, c3, c4, c5, c6⟩ := h
  have h1 : 0 < (v1 * 4294967296 + v2) * P := Int.mul_pos (by omega) hP
  have h2 : 0 ≤ ((u2 * 4294967296 + u1) * 4294967296 + u0) * P := Int.mul_nonneg (by omega) (by omega)
  refine ⟨by omega, by omega, Int.ediv_nonneg (by omega) (by omega), ?_⟩
  exact Int.ediv_lt_of_lt_mul (by omega) (by rw [Int.mul_comm 4294967296]; exact a5)
theorem GH.u2_le (h : GH W V v1 v2 u2 u1 u0) : u2 ≤ v1 := by
  obtain ⟨⟨P, Vl, Wl, hP, a1, a2, a3, a4, rfl, rfl, a5⟩, b1, b2, b3, b4, c1, c2, c3, c4, c5, c6⟩ := h
  exact top_le hP a2 a3 c3 c5 b4 a5
theorem GH.first (h : GH W V v1 v2 u2 u1 u0) : GS W V v1 (u2 * 4294967296 + u1) ((u2 * 4294967296 + u1) / v1) ((u2 * 4294967296 + u1) % v1) ∧ (u2 * 4294967296 + u1) % v1 < 4294967296 := by
  have hu := h.u2_le
  have hp := h.pos
  obtain ⟨⟨P, Vl, Wl, hP, a1, a2, a3, a4, e1, e2, a5⟩, b1, b2, b3, b4, c1, c2, c3, c4, c5, c6⟩ := h
  obtain ⟨t, ht⟩ : ∃ t, u2 * 4294967296 + u1 = t := ⟨_, rfl⟩
  rw [ht] at e2 ⊢
  have t0 : 0 ≤ t := by omega
  obtain ⟨g, hg⟩ : ∃ g, t / v1 = g := ⟨_, rfl⟩
  obtain ⟨r, hr⟩ : ∃ r, t % v1 = r := ⟨_, rfl⟩
  have s1 := Int.mul_ediv_add_emod t v1
  have r0 : 0 ≤ t % v1 := Int.emod_nonneg _ (by omega)
  have r1 : t % v1 < v1 := Int.emod_lt_of_pos _ (by omega)
  have g0 : 0 ≤ t / v1 := Int.ediv_nonneg t0 (by omega)
  rw [hg, hr] at s1
  rw [hg] at g0 ⊢
  rw [hr] at r0 r1 ⊢
  rw [Int.mul_comm] at s1
  refine ⟨⟨s1, r0, ?_, ?_, g0⟩, by omega⟩
  · have h1 : t + 1 ≤ (g + 1) * v1 := by rw [Int.add_mul]; omega
    have h2 : (t + 1) * (4294967296 * P) ≤ (g + 1) * v1 * (4294967296 * P) := mul_mono h1 (by omega)
    have h3 : (g + 1) * v1 * (4294967296 * P) ≤ (g + 1) * V := by
      rw [Int.mul_assoc]
      refine Int.mul_le_mul_of_nonneg_left ?_ (by omega)
      rw [e1, Int.add_mul, Int.mul_assoc v1]
      have : 0 ≤ v2 * P := Int.mul_nonneg b3 (by omega)
      omega
    have h4 : W < (t + 1) * (4294967296 * P) := by
      rw [e2, ← Int.mul_assoc]
      have h5 : (t * 4294967296 + u0 + 1) * P ≤ (t + 1) * 4294967296 * P := mul_mono (by omega) (by omega)
      rw [Int.add_mul (t * 4294967296 + u0), Int.one_mul] at h5
      omega
    have h5 : W / V < g + 1 := Int.ediv_lt_of_lt_mul hp.1 (by omega)
    omega
  · exact guess_first hu c4 b1 (by omega)
/-- It is taken down by one. -/
theorem GH.down (h : GH W V v1 v2 u2 u1 u0) (s : GS W V v1 (u2 * 4294967296 + u1) g r) (c : 4294967296 ≤ g ∨ r * 4294967296 + u0 < g * v2) : GS W V v1 (u2 * 4294967296 + u1) (g - 1) (r + v1) ∧ 1 ≤ g := by
  have hp := h.pos
  obtain ⟨⟨P, Vl, Wl, hP, a1, a2, a3, a4, e1, e2, a5⟩, b1, b2, b3, b4, c1, c2, c3, c4, c5, c6⟩ := h
  obtain ⟨s1, s2, s3, s4, s5⟩ := s
  have hq : W / V < g := by
    rcases c with c | c
    · omega
    · refine Int.ediv_lt_of_lt_mul hp.1 ?_
      rw [e1, e2]
      exact guess_great hP a1 a4 s5 s1 c
  refine ⟨⟨?_, by omega, by omega, by omega, by omega⟩, by omega⟩
  rw [Int.sub_mul]; omega
/-- What is left is great: the guess will do. -/
theorem GH.stop (h : GH W V v1 v2 u2 u1 u0) (s : GS W V v1 (u2 * 4294967296 + u1) g r) (c : 4294967296 ≤ r ∨ (g < 4294967296 ∧ g * v2 ≤ r * 4294967296 + u0)) : g < 4294967296 ∧ g - 1 ≤ W / V := by
  have hp := h.pos
  have hu := h.u2_le
  obtain ⟨⟨P, Vl, Wl, hP, a1, a2, a3, a4, e1, e2, a5⟩, b1, b2, b3, b4, c1, c2, c3, c4, c5, c6⟩ := h
  obtain ⟨s1, s2, s3, s4, s5⟩ := s
  have hg : g < 4294967296 := by
    rcases c with c | c
    · exact guess_small s1 hu c4 c (by omega)
    · exact c.1
  have hc : g * v2 ≤ r * 4294967296 + u0 := by
    rcases c with c | c
    · have h1 : g * v2 ≤ 4294967295 * v2 := mul_mono (by omega) b3
      omega
    · exact c.2
  refine ⟨hg, ?_⟩
  have h1 := guess_near hP a1 a2 a3 s5 hg s1 (by omega) b3 hc e1
  rw [← e2] at h1
  have h2 : (g - 1) * V ≤ W := by rw [Int.sub_mul]; omega
  exact (Int.le_ediv_iff_mul_le hp.1).mpr h2
end
theorem LI.pos {A : Int} {V out U U1 : List Int} {j : Nat} {g : Int} (h : LI A V out U (j + 1)) (hV : Okd 4294967296 V) (g0 : 0 ≤ g)
    (ok1 : Okd 4294967296 U1) (hz1 : ∀ t, j + V.length < t → U1.getD t 0 = U.getD t 0) (hv1 : vl 4294967296 U1 = vl 4294967296 U - 4294967296 ^ j * (g * vl 4294967296 V) + 4294967296 ^ (j + V.length + 1)) : 1 ≤ g := by
  obtain ⟨hU, ho, hll, hj, hA, hlt, hz⟩ := h
  have hVlt : vl 4294967296 V < 4294967296 ^ V.length := by
    have := (okd_lt hV V.length).1
    rwa [vl_take_all (Nat.le_refl _)] at this
  have hUz : ∀ t, j + V.length < t → U.getD t 0 = 0 := by
    intro t ht
    refine zeros_above hU (k := j + V.length + 1) ?_ (by omega)
    have h1 : (4294967296 : Int) ^ (j + 1) * vl 4294967296 V < 4294967296 ^ (j + 1) * 4294967296 ^ V.length := Int.mul_lt_mul_of_pos_left hVlt (pow_pos _)
    rw [← Int.pow_add, show j + 1 + V.length = j + V.length + 1 by omega] at h1
    omega
  have hv1' : vl 4294967296 U1 < 4294967296 ^ (j + V.length + 1) := by
    rw [vl_take_zeros (k := j + V.length + 1) (fun t ht => by rw [hz1 t (by omega), hUz t (by omega)])]
    exact (okd_lt ok1 _).1
  have hn : 0 ≤ vl 4294967296 U := by have := (okd_lt hU U.length).2; rwa [vl_take_all (Nat.le_refl _)] at this
  by_cases h0 : g = 0
  · rw [h0] at hv1
    simp only [Int.zero_mul, Int.mul_zero, Int.sub_zero] at hv1
    omega
  · omega

/-! ### the remainder is shifted back -/
theorem emod_mul_split (a m k : Int) (hm : 0 < m) (hk : 0 < k) : a % (m * k) = a % m + m * (a / m % k) := by
  have h1 := Int.mul_ediv_add_emod a m
  have h2 := Int.mul_ediv_add_emod (a / m) k
  have h3 := Int.emod_lt_of_pos a hm
  have h4 := Int.emod_nonneg a (show m ≠ 0 by omega)
  have h5 := Int.emod_lt_of_pos (a / m) hk
  have h6 := Int.emod_nonneg (a / m) (show k ≠ 0 by omega)
  have h7 : m * (a / m % k + 1) ≤ m * k := Int.mul_le_mul_of_nonneg_left (by omega) (by omega)
  rw [Int.mul_add, Int.mul_one] at h7
  have h8 : 0 ≤ m * (a / m % k) := Int.mul_nonneg (by omega) h6
  have e : a = (a % m + m * (a / m % k)) + m * k * (a / m / k) := by
    have e1 : m * k * (a / m / k) = m * (k * (a / m / k)) := Int.mul_assoc _ _ _
    have e2 : m * (a / m) = m * (k * (a / m / k)) + m * (a / m % k) := by rw [← Int.mul_add, h2]
    omega
  conv => lhs; rw [e]
  rw [Int.add_mul_emod_self_left]
  exact Int.emod_eq_of_lt (by omega) (by omega)
def UN (U r : List Int) (s n i : Nat) : Prop := r.length = n ∧ Okd 4294967296 r ∧ i ≤ n ∧ vl 4294967296 (r.take i) = vl 4294967296 U / 2 ^ s % 4294967296 ^ i
theorem UN.step {U r : List Int} {s n i : Nat} {x y : Int} (h : UN U r s n i) (hU : Okd 4294967296 U) (hi : i < n) (hl : i + 1 < U.length) (hx : U.getD i 0 = x) (hy : U.getD (i + 1) 0 = y) (hs : s ≤ 31) :
    UN U (r.set i (x / 2 ^ s + y * 2 ^ (32 - s) % 4294967296)) s n (i + 1) ∧ 0 ≤ x / 2 ^ s ∧ x / 2 ^ s < 2 ^ (32 - s) ∧ x / 2 ^ s + y * 2 ^ (32 - s) % 4294967296 < 4294967296 := by
  obtain ⟨h1, h2, h3, h4⟩ := h
  have hx0 := hU.getD (by omega) i
  have hy0 := hU.getD (by omega) (i + 1)
  rw [hx] at hx0
  rw [hy] at hy0
  have hp : (0 : Int) < 2 ^ s := Int.pow_pos (by omega)
  obtain ⟨q, hq⟩ : ∃ q : Nat, q = 32 - s := ⟨_, rfl⟩
  rw [← hq]
  have hq0 : (0 : Int) < 2 ^ q := Int.pow_pos (by omega)
  have hB : (4294967296 : Int) = 2 ^ q * 2 ^ s := by
    rw [← Int.pow_add, show q + s = 32 by omega]; rfl
  have hx1 : 0 ≤ x / 2 ^ s := Int.ediv_nonneg hx0.1 (by omega)
  have hx2 : x / 2 ^ s < 2 ^ q := Int.ediv_lt_of_lt_mul hp (by rw [← hB]; exact hx0.2)
  have hmod : ∀ Y : Int, 2 ^ q * Y % 4294967296 = 2 ^ q * (Y % 2 ^ s) := by
    intro Y
    rw [hB, Int.mul_emod_mul_of_pos _ _ hq0]
  have hle : ∀ Y : Int, 2 ^ q * Y % 4294967296 + 2 ^ q ≤ 4294967296 := by
    intro Y
    rw [hmod]
    have h5 : 2 ^ q * (Y % 2 ^ s + 1) ≤ 2 ^ q * 2 ^ s := Int.mul_le_mul_of_nonneg_left (Int.emod_lt_of_pos Y hp) (by omega)
    rw [Int.mul_add, Int.mul_one, ← hB] at h5
    exact h5
  have hfit : x / 2 ^ s + y * 2 ^ q % 4294967296 < 4294967296 := by
    have := hle y
    rw [Int.mul_comm y]
    omega
  have hm0 : 0 ≤ y * 2 ^ q % 4294967296 := Int.emod_nonneg _ (by omega)
  have hX := pow_pos i
  refine ⟨⟨by simp [h1], h2.set _ (by omega) hfit, by omega, ?_⟩, hx1, hx2, hfit⟩
  rw [vl_set_take _ _ _ _ (by omega), h4, Int.pow_succ, emod_mul_split _ _ _ hX (by omega)]
  congr 2
  have e1 : vl 4294967296 U / 2 ^ s / 4294967296 ^ i = vl 4294967296 (U.drop i) / 2 ^ s := by
    rw [Int.ediv_ediv_of_nonneg (by omega), Int.mul_comm, ← Int.ediv_ediv_of_nonneg (by omega)]
    congr 1
    rw [vl_split 4294967296 U i (by omega), Int.add_mul_ediv_left _ _ (by omega), Int.ediv_eq_zero_of_lt (okd_lt hU i).2 (okd_lt hU i).1, Int.zero_add]
  rw [e1, vl_drop_at _ _ _ (by omega), hx, vl_drop_at _ _ _ hl, hy]
  obtain ⟨Y, hY⟩ : ∃ Y, y + 4294967296 * vl 4294967296 (U.drop (i + 1 + 1)) = Y := ⟨_, rfl⟩
  rw [hY]
  have e2 : (x + 4294967296 * Y) / 2 ^ s = x / 2 ^ s + 2 ^ q * Y := by
    have e3 : 4294967296 * Y = 2 ^ q * Y * 2 ^ s := by rw [Int.mul_right_comm, ← hB]
    rw [e3, Int.add_mul_ediv_right _ _ (by omega)]
  have e4 : 2 ^ q * Y % 4294967296 = y * 2 ^ q % 4294967296 := by
    rw [← hY, Int.mul_add, Int.mul_comm y, Int.mul_left_comm, Int.add_mul_emod_self_left]
  rw [e2]
  have h6 := hle Y
  rw [Int.add_emod, Int.emod_eq_of_lt hx1 (by omega), e4]
  exact (Int.emod_eq_of_lt (by omega) hfit).symm
theorem UN.start (U : List Int) (s n : Nat) : UN U (List.replicate n 0) s n 0 := ⟨by simp, Okd.replicate (by omega) _, by omega, by simp [vl, Int.emod_one]⟩
theorem UN.done {U r : List Int} {s n : Nat} {R : Int} (h : UN U r s n n) (hR : vl 4294967296 U / 2 ^ s = R) (h0 : 0 ≤ R) (h1 : R < 4294967296 ^ n) : vl 4294967296 r = R := by
  obtain ⟨a, b, c, d⟩ := h
  rw [vl_take_all (by omega), hR, Int.emod_eq_of_lt h0 h1] at d
  exact d
theorem shr32 {x : Int} {s : Nat} (hs : s ≤ 31) : shr .u32 x (s : Int) = x / 2 ^ s := by
  have h := shr_small (k := .u32) (x := x) (y := (s : Int)) rfl (by show (s : Int) ≤ 32; omega)
  rw [← h, Int.toNat_natCast]
theorem or32b {a y : Int} {s : Nat} (hs : s ≤ 31) (a0 : 0 ≤ a) (a1 : a < 2 ^ (32 - s)) (y0 : 0 ≤ y) : Go.bits .or .u32 a (y * 2 ^ (32 - s) % 4294967296) = a + y * 2 ^ (32 - s) % 4294967296 := by
  obtain ⟨q, hq⟩ : ∃ q : Nat, q = 32 - s := ⟨_, rfl⟩
  rw [← hq] at a1 ⊢
  have hq0 : (0 : Int) < 2 ^ q := Int.pow_pos (by omega)
  have hB : (4294967296 : Int) = 2 ^ q * 2 ^ s := by
    rw [← Int.pow_add, show q + s = 32 by omega]; rfl
  have hle : (2 : Int) ^ q ≤ 2 ^ 32 := pow_mono (by omega) (by omega)
  have h9 : (2 : Int) ^ 32 = 4294967296 := rfl
  have b1 : a < 4294967296 := by omega
  have b2 : 0 ≤ y * 2 ^ q % 4294967296 := Int.emod_nonneg _ (by omega)
  have b3 : y * 2 ^ q % 4294967296 < 4294967296 := Int.emod_lt_of_pos _ (by omega)
  refine bits_join_low .u32 32 (by decide) (fun n h0 h1 => u32_id h0 h1) q a (y * 2 ^ q % 4294967296) a0 a1 b1 b2 ?_ b3
  rw [Int.mul_comm, hB, Int.mul_emod_mul_of_pos _ _ hq0]
  exact Int.mul_emod_right _ _

end Go.Proofs.Ytdkapdgbfejgdaa
