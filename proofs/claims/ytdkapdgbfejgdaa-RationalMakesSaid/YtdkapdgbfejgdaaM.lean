/- Plain mathematics: numbers as lists of digits in a base b, least digit first; the canonical list of a number; trimming. -/
import Derived.RowKit
set_option linter.unusedVariables false
set_option linter.unusedSimpArgs false
namespace Go.Proofs.Ytdkapdgbfejgdaa

/-- The number with the digits l in base b. -/
def vl (b : Int) : List Int → Int
  | [] => 0
  | x :: xs => x + b * vl b xs

/-- Each entry is a digit. -/
def Okd (b : Int) (l : List Int) : Prop := ∀ x ∈ l, 0 ≤ x ∧ x < b

/-- The list ends in no zero. -/
def NoZ (l : List Int) : Prop := ∀ x, l.getLast? = some x → x ≠ 0

/-- The digits of n, with a bound on the number of rounds. -/
def dgF (b : Nat) : Nat → Nat → List Int
  | 0, _ => []
  | k + 1, n => if n = 0 then [] else ((n % b : Nat) : Int) :: dgF b k (n / b)

/-- The digits of n in base b. -/
def dg (b n : Nat) : List Int := dgF b n n

theorem vl_nil (b : Int) : vl b [] = 0 := rfl
theorem vl_cons (b x : Int) (xs : List Int) : vl b (x :: xs) = x + b * vl b xs := rfl

theorem Okd.nil (b : Int) : Okd b [] := fun x h => by cases h
theorem Okd.cons {b x : Int} {xs : List Int} (h0 : 0 ≤ x) (h1 : x < b) (h : Okd b xs) : Okd b (x :: xs) := by
  intro y hy
  rcases List.mem_cons.mp hy with rfl | hy
  · exact ⟨h0, h1⟩
  · exact h y hy
theorem Okd.head {b x : Int} {xs : List Int} (h : Okd b (x :: xs)) : 0 ≤ x ∧ x < b := h x (List.mem_cons_self)
theorem Okd.tail {b x : Int} {xs : List Int} (h : Okd b (x :: xs)) : Okd b xs := fun y hy => h y (List.mem_cons_of_mem _ hy)
theorem Okd.append {b : Int} {xs ys : List Int} (h : Okd b xs) (h' : Okd b ys) : Okd b (xs ++ ys) := by
  intro y hy
  rcases List.mem_append.mp hy with hy | hy
  · exact h y hy
  · exact h' y hy
theorem Okd.left {b : Int} {xs ys : List Int} (h : Okd b (xs ++ ys)) : Okd b xs := fun y hy => h y (List.mem_append_left _ hy)
theorem Okd.right {b : Int} {xs ys : List Int} (h : Okd b (xs ++ ys)) : Okd b ys := fun y hy => h y (List.mem_append_right _ hy)
theorem Okd.take {b : Int} {xs : List Int} (h : Okd b xs) (n : Nat) : Okd b (xs.take n) := fun y hy => h y (List.mem_of_mem_take hy)
theorem Okd.drop {b : Int} {xs : List Int} (h : Okd b xs) (n : Nat) : Okd b (xs.drop n) := fun y hy => h y (List.mem_of_mem_drop hy)
theorem Okd.getD {b : Int} (hb : 0 < b) {xs : List Int} (h : Okd b xs) (i : Nat) : 0 ≤ xs.getD i 0 ∧ xs.getD i 0 < b := by
  by_cases hi : i < xs.length
  · have e : xs.getD i 0 = xs[i] := by simp [List.getD, hi]
    rw [e]; exact h _ (List.getElem_mem hi)
  · have e : xs.getD i 0 = 0 := by simp [List.getD]; rw [List.getElem?_eq_none (by omega)]; rfl
    rw [e]; exact ⟨Int.le_refl 0, hb⟩
theorem Okd.set {b : Int} {xs : List Int} (h : Okd b xs) (i : Nat) {v : Int} (h0 : 0 ≤ v) (h1 : v < b) : Okd b (xs.set i v) := by
  intro y hy
  rcases List.mem_or_eq_of_mem_set hy with hy | rfl
  · exact h y hy
  · exact ⟨h0, h1⟩
theorem Okd.replicate {b : Int} (hb : 0 < b) (n : Nat) : Okd b (List.replicate n 0) := by
  intro y hy
  rw [List.eq_of_mem_replicate hy]; exact ⟨Int.le_refl 0, hb⟩

theorem vl_nonneg {b : Int} (hb : 0 ≤ b) : ∀ {l : List Int}, Okd b l → 0 ≤ vl b l
  | [], _ => Int.le_refl 0
  | x :: xs, h => by
    have h1 := vl_nonneg hb h.tail
    have h2 := h.head.1
    have h3 := Int.mul_nonneg hb h1
    rw [vl_cons]; omega

theorem vl_append (b : Int) : ∀ (xs ys : List Int), vl b (xs ++ ys) = vl b xs + b ^ xs.length * vl b ys
  | [], ys => by simp [vl]
  | x :: xs, ys => by
    rw [List.cons_append, vl_cons, vl_cons, vl_append b xs ys, List.length_cons, Int.pow_succ, Int.mul_add]
    have : b * (b ^ xs.length * vl b ys) = b ^ xs.length * b * vl b ys := by rw [← Int.mul_assoc, Int.mul_comm b]
    omega

theorem vl_lt {b : Int} (hb : 0 < b) : ∀ {l : List Int}, Okd b l → vl b l < b ^ l.length
  | [], _ => by simp [vl]
  | x :: xs, h => by
    have h1 := vl_lt hb h.tail
    have h2 := h.head
    rw [vl_cons, List.length_cons, Int.pow_succ, Int.mul_comm (b ^ xs.length)]
    have h3 : b * (vl b xs + 1) ≤ b * b ^ xs.length := Int.mul_le_mul_of_nonneg_left (by omega) (by omega)
    rw [Int.mul_add] at h3; omega

theorem vl_replicate (b : Int) : ∀ n : Nat, vl b (List.replicate n 0) = 0
  | 0 => rfl
  | n + 1 => by rw [List.replicate_succ, vl_cons, vl_replicate b n]; simp

theorem vl_pos {b : Int} (hb : 0 < b) {l : List Int} (h : Okd b l) (hz : NoZ l) (hl : l ≠ []) : 0 < vl b l := by
  obtain ⟨xs, x, rfl⟩ : ∃ xs x, l = xs ++ [x] := ⟨l.dropLast, l.getLast hl, (List.dropLast_concat_getLast hl).symm⟩
  have h1 := vl_nonneg (Int.le_of_lt hb) h.left
  have hx := h.right.head.1
  have hne : x ≠ 0 := hz x (by simp)
  rw [vl_append]
  have hp : 0 < b ^ xs.length := Int.pow_pos hb
  have : 0 < b ^ xs.length * x := Int.mul_pos hp (by omega)
  simp [vl]; omega

/-- The least value of a list that ends in no zero. -/
theorem vl_ge {b : Int} (hb : 0 < b) {l : List Int} (h : Okd b l) (hz : NoZ l) (hl : l ≠ []) : b ^ (l.length - 1) ≤ vl b l := by
  obtain ⟨xs, x, rfl⟩ : ∃ xs x, l = xs ++ [x] := ⟨l.dropLast, l.getLast hl, (List.dropLast_concat_getLast hl).symm⟩
  have h1 := vl_nonneg (Int.le_of_lt hb) h.left
  have hx := h.right.head.1
  have hne : x ≠ 0 := hz x (by simp)
  rw [vl_append]
  have hp : 0 < b ^ xs.length := Int.pow_pos hb
  have : b ^ xs.length * 1 ≤ b ^ xs.length * x := Int.mul_le_mul_of_nonneg_left (by omega) (Int.le_of_lt hp)
  simp [vl]; omega

theorem dgF_more (b : Nat) (hb : 2 ≤ b) : ∀ (k n : Nat), n ≤ k → dgF b k n = dgF b n n
  | 0, n, h => by obtain rfl : n = 0 := by omega
                  rfl
  | k + 1, 0, _ => by simp [dgF]
  | k + 1, n + 1, h => by
    have hd : (n + 1) / b < n + 1 := Nat.div_lt_self (by omega) (by omega)
    simp only [dgF]
    rw [dgF_more b hb k _ (by omega), dgF_more b hb n _ (by omega)]

theorem dg_zero (b : Nat) : dg b 0 = [] := rfl
theorem dg_step (b : Nat) (hb : 2 ≤ b) (n : Nat) (hn : n ≠ 0) : dg b n = ((n % b : Nat) : Int) :: dg b (n / b) := by
  obtain ⟨m, rfl⟩ : ∃ m, n = m + 1 := ⟨n - 1, by omega⟩
  have hd : (m + 1) / b < m + 1 := Nat.div_lt_self (by omega) (by omega)
  unfold dg
  rw [dgF, if_neg hn, dgF_more b hb m _ (by omega)]

theorem dg_ok (b : Nat) (hb : 2 ≤ b) (n : Nat) : Okd b (dg b n) := by
  induction n using Nat.strongRecOn with
  | ind n ih =>
    by_cases hn : n = 0
    · subst hn; exact Okd.nil _
    · rw [dg_step b hb n hn]
      have := Nat.mod_lt n (show b > 0 by omega)
      exact Okd.cons (by omega) (by omega) (ih (n / b) (Nat.div_lt_self (by omega) (by omega)))

theorem dg_vl (b : Nat) (hb : 2 ≤ b) (n : Nat) : vl b (dg b n) = n := by
  induction n using Nat.strongRecOn with
  | ind n ih =>
    by_cases hn : n = 0
    · subst hn; rfl
    · rw [dg_step b hb n hn, vl_cons, ih (n / b) (Nat.div_lt_self (by omega) (by omega))]
      have := Nat.mod_add_div n b
      omega

theorem dg_noz (b : Nat) (hb : 2 ≤ b) (n : Nat) : NoZ (dg b n) := by
  induction n using Nat.strongRecOn with
  | ind n ih =>
    by_cases hn : n = 0
    · subst hn; intro x hx; simp [dg_zero] at hx
    · rw [dg_step b hb n hn]
      intro x hx
      by_cases hq : n / b = 0
      · rw [hq, dg_zero] at hx
        simp at hx
        have := Nat.div_eq_zero_iff.mp hq
        have hm : n % b = n := Nat.mod_eq_of_lt (by omega)
        omega
      · have hne : dg b (n / b) ≠ [] := by rw [dg_step b hb _ hq]; simp
        rw [List.getLast?_cons] at hx
        refine ih (n / b) (Nat.div_lt_self (by omega) (by omega)) x ?_
        obtain ⟨y, hy⟩ : ∃ y, (dg b (n / b)).getLast? = some y := by
          cases hg : (dg b (n / b)).getLast? with
          | none => exact absurd (List.getLast?_eq_none_iff.mp hg) hne
          | some y => exact ⟨y, rfl⟩
        rw [hy] at hx ⊢; simpa using hx

/-- A list of digits that ends in no zero is the list of its value. -/
theorem dg_of_vl (b : Nat) (hb : 2 ≤ b) : ∀ (l : List Int), Okd b l → NoZ l → dg b (vl b l).toNat = l
  | [], _, _ => rfl
  | x :: xs, h, hz => by
    have hz' : NoZ xs := by
      intro y hy; refine hz y ?_
      rw [List.getLast?_cons, hy]; rfl
    have ih := dg_of_vl b hb xs h.tail hz'
    have h1 := vl_nonneg (b := b) (by omega) h.tail
    have h2 := h.head
    have hp := vl_pos (b := b) (by omega) h hz (by simp)
    obtain ⟨v, hv⟩ := Int.eq_ofNat_of_zero_le h1
    obtain ⟨y, rfl⟩ := Int.eq_ofNat_of_zero_le h2.1
    rw [vl_cons, hv] at hp ⊢
    have e : ((y : Int) + (b : Int) * (v : Int)).toNat = y + b * v := by
      have : ((y : Int) + (b : Int) * (v : Int)) = ((y + b * v : Nat) : Int) := by push_cast; rfl
      rw [this]; rfl
    have hyb : y < b := by omega
    rw [e]
    have hn : y + b * v ≠ 0 := by
      intro h0
      have : ((y : Int) + (b : Int) * (v : Int)) = ((y + b * v : Nat) : Int) := by push_cast; rfl
      omega
    rw [dg_step b hb _ hn]
    have e1 : (y + b * v) % b = y := by rw [Nat.add_mul_mod_self_left]; exact Nat.mod_eq_of_lt hyb
    have e2 : (y + b * v) / b = v := by rw [Nat.add_mul_div_left _ _ (by omega), Nat.div_eq_of_lt hyb]; omega
    rw [e1, e2]
    have e3 : (vl (b : Int) xs).toNat = v := by rw [hv]; rfl
    rw [e3] at ih
    rw [ih]

theorem dg_len_le (b : Nat) (hb : 2 ≤ b) (n k : Nat) (h : n < b ^ k) : (dg b n).length ≤ k := by
  by_cases h0 : dg b n = []
  · rw [h0]; simp
  · have hg := vl_ge (b := b) (by omega) (dg_ok b hb n) (dg_noz b hb n) h0
    rw [dg_vl b hb] at hg
    have hp : b ^ ((dg b n).length - 1) ≤ n := by
      have e : ((b : Int) ^ ((dg b n).length - 1)) = ((b ^ ((dg b n).length - 1) : Nat) : Int) := by push_cast; rfl
      rw [e] at hg; exact_mod_cast hg
    have hlt : b ^ ((dg b n).length - 1) < b ^ k := by omega
    have := (Nat.pow_lt_pow_iff_right (by omega)).mp hlt
    omega

theorem dg_lt (b : Nat) (hb : 2 ≤ b) (n : Nat) : n < b ^ (dg b n).length := by
  have h := vl_lt (b := b) (by omega) (dg_ok b hb n)
  rw [dg_vl b hb] at h
  exact_mod_cast h

theorem dg_nil_iff (b : Nat) (hb : 2 ≤ b) (n : Nat) : dg b n = [] ↔ n = 0 := by
  constructor
  · intro h
    by_cases hn : n = 0
    · exact hn
    · rw [dg_step b hb n hn] at h; simp at h
  · rintro rfl; rfl

/-- A list without the zeros at its end. -/
def trimR : List Int → List Int
  | [] => []
  | x :: xs => if trimR xs = [] ∧ x = 0 then [] else x :: trimR xs

theorem trimR_ok {b : Int} : ∀ {l : List Int}, Okd b l → Okd b (trimR l)
  | [], h => h
  | x :: xs, h => by
    unfold trimR; split
    · exact Okd.nil _
    · exact Okd.cons h.head.1 h.head.2 (trimR_ok h.tail)
theorem trimR_vl (b : Int) : ∀ l : List Int, vl b (trimR l) = vl b l
  | [] => rfl
  | x :: xs => by
    have ih := trimR_vl b xs
    unfold trimR; split
    · next h => rw [h.1] at ih; rw [vl_cons, ← ih, h.2]; simp [vl]
    · rw [vl_cons, vl_cons, ih]
theorem trimR_noz : ∀ l : List Int, NoZ (trimR l)
  | [] => fun x h => by simp [trimR] at h
  | x :: xs => by
    have ih := trimR_noz xs
    unfold trimR; split
    · intro y h; simp at h
    · next h =>
      intro y hy
      rw [List.getLast?_cons] at hy
      cases hg : (trimR xs).getLast? with
      | none =>
        have he := List.getLast?_eq_none_iff.mp hg
        rw [hg] at hy; simp at hy; subst hy
        intro h0; exact h ⟨he, h0⟩
      | some z => rw [hg] at hy; simp at hy; subst hy; exact ih z hg
theorem trimR_snoc_zero : ∀ l : List Int, trimR (l ++ [0]) = trimR l
  | [] => by simp [trimR]
  | x :: xs => by rw [List.cons_append]; unfold trimR; rw [trimR_snoc_zero xs]
theorem trimR_id : ∀ l : List Int, NoZ l → trimR l = l
  | [], _ => rfl
  | x :: xs, hz => by
    have hz' : NoZ xs := by
      intro y hy; refine hz y ?_
      rw [List.getLast?_cons, hy]; rfl
    unfold trimR
    rw [trimR_id xs hz', if_neg]
    rintro ⟨rfl, rfl⟩
    exact hz 0 (by simp) rfl
theorem trimR_dg (b : Nat) (hb : 2 ≤ b) (l : List Int) (h : Okd b l) : trimR l = dg b (vl b l).toNat := by
  have := dg_of_vl b hb (trimR l) (trimR_ok h) (trimR_noz l)
  rw [trimR_vl] at this; exact this.symm

end Go.Proofs.Ytdkapdgbfejgdaa
namespace Go.Proofs.Ytdkapdgbfejgdaa

theorem vl_take_succ (b : Int) : ∀ (l : List Int) (k : Nat), vl b (l.take (k + 1)) = vl b (l.take k) + b ^ k * l.getD k 0
  | [], k => by simp [vl]
  | x :: xs, 0 => by simp [vl]
  | x :: xs, k + 1 => by
    rw [List.take_succ_cons, List.take_succ_cons, vl_cons, vl_cons, vl_take_succ b xs k, List.getD_cons_succ, Int.pow_succ, Int.mul_add]
    have : b * (b ^ k * xs.getD k 0) = b ^ k * b * xs.getD k 0 := by rw [← Int.mul_assoc, Int.mul_comm b]
    omega
theorem vl_set_take (b : Int) (l : List Int) (k : Nat) (v : Int) (hk : k < l.length) : vl b ((l.set k v).take (k + 1)) = vl b (l.take k) + b ^ k * v := by
  rw [vl_take_succ]
  have h1 : (l.set k v).take k = l.take k := by rw [List.take_set_of_le (Nat.le_refl _)]
  have h2 : (l.set k v).getD k 0 = v := by simp [List.getD, hk]
  rw [h1, h2]
end Go.Proofs.Ytdkapdgbfejgdaa
namespace Go.Proofs.Ytdkapdgbfejgdaa
theorem pow_mono {b : Int} (hb : 1 ≤ b) {m n : Nat} (h : m ≤ n) : b ^ m ≤ b ^ n := by
  obtain ⟨d, rfl⟩ : ∃ d, n = m + d := ⟨n - m, by omega⟩
  rw [Int.pow_add]
  have h1 : (0 : Int) < b ^ m := Int.pow_pos (by omega)
  have h2 : (0 : Int) < b ^ d := Int.pow_pos (by omega)
  have : b ^ m * 1 ≤ b ^ m * b ^ d := Int.mul_le_mul_of_nonneg_left (by omega) (by omega)
  omega
end Go.Proofs.Ytdkapdgbfejgdaa
