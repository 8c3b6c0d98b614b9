/- math/bits: Sub32, Add32; the contracts of the shelf at Len32, LeadingZeros32, cmp.Compare. -/
import Derived.Test.YtdkapdgbfejgdaaY1
import Derived.Laws.BitsLemmas
set_option linter.unusedVariables false
set_option linter.unusedSimpArgs false
namespace Go.Proofs.Ytdkapdgbfejgdaa
open Go.RowKit Go.Proofs.YtdkapdgbfejgdaaW.PrintWords Go.Proofs.YtdkapdgbfejgdaaW.PrintLast Go.Proofs.YtdkapdgbfejgdaaW.PrintMore

theorem u32_wrap (n : Nat) (h : n < 4294967296) : IntKind.u32.wrap (n : Int) = n := by rw [IntKind.wrap_u32]; omega
theorem u32_bits (a b : Nat) (ha : a < 4294967296) (hb : b < 4294967296) :
    Go.bits .and .u32 a b = ((a &&& b : Nat) : Int) ∧ Go.bits .or .u32 a b = ((a ||| b : Nat) : Int) ∧ Go.bits .xor .u32 a b = ((a ^^^ b : Nat) : Int) := by
  have ha' : a % 2 ^ IntKind.u32.bits = a := Nat.mod_eq_of_lt ha
  have hb' : b % 2 ^ IntKind.u32.bits = b := Nat.mod_eq_of_lt hb
  refine ⟨?_, ?_, ?_⟩
  · simp only [Go.bits, BitVec.ofInt_natCast, BitVec.toNat_and, BitVec.toNat_ofNat, ha', hb']
    exact u32_wrap _ (Nat.and_lt_two_pow (n := 32) _ hb)
  · simp only [Go.bits, BitVec.ofInt_natCast, BitVec.toNat_or, BitVec.toNat_ofNat, ha', hb']
    exact u32_wrap _ (Nat.or_lt_two_pow (n := 32) ha hb)
  · simp only [Go.bits, BitVec.ofInt_natCast, BitVec.toNat_xor, BitVec.toNat_ofNat, ha', hb']
    exact u32_wrap _ (Nat.xor_lt_two_pow (n := 32) ha hb)

theorem top_bit (n : Nat) (h : n < 4294967296) : n.testBit 31 = decide (2147483648 ≤ n) := by
  rw [Nat.testBit_eq_decide_div_mod_eq]
  congr 1
  apply propext
  show n / 2147483648 % 2 = 1 ↔ _
  omega

/-- What Sub32 reckons as its borrow. -/
theorem borrow_bit (X Y B : Nat) (hX : X < 4294967296) (hY : Y < 4294967296) (hB : B ≤ 1) :
    Go.bits .or .u32 (Go.bits .and .u32 (Go.bits .xor .u32 IntKind.u32.max X) Y) (Go.bits .and .u32 (Go.bits .xor .u32 IntKind.u32.max (Go.bits .xor .u32 X Y)) (((X : Int) - Y - B) % 4294967296)) / 2147483648 = if (X : Int) < Y + B then 1 else 0 := by
  obtain ⟨D, hD⟩ : ∃ D : Nat, ((X : Int) - Y - B) % 4294967296 = D := Int.eq_ofNat_of_zero_le (by omega)
  have hD1 : D < 4294967296 := by omega
  have hm : IntKind.u32.max = ((4294967295 : Nat) : Int) := by decide
  have hxy : X ^^^ Y < 4294967296 := Nat.xor_lt_two_pow (n := 32) hX hY
  have h1 : 4294967295 ^^^ X < 4294967296 := Nat.xor_lt_two_pow (n := 32) (by omega) hX
  have h2 : 4294967295 ^^^ (X ^^^ Y) < 4294967296 := Nat.xor_lt_two_pow (n := 32) (by omega) hxy
  have h3 : (4294967295 ^^^ X) &&& Y < 4294967296 := Nat.and_lt_two_pow (n := 32) _ hY
  have h4 : (4294967295 ^^^ (X ^^^ Y)) &&& D < 4294967296 := Nat.and_lt_two_pow (n := 32) _ hD1
  rw [hD, hm, (u32_bits _ _ (by omega) hX).2.2, (u32_bits _ _ hX hY).2.2, (u32_bits _ _ (by omega) hxy).2.2, (u32_bits _ _ h1 hY).1, (u32_bits _ _ h2 hD1).1, (u32_bits _ _ h3 h4).2.1]
  have h5 : ((4294967295 ^^^ X) &&& Y ||| (4294967295 ^^^ (X ^^^ Y)) &&& D) < 4294967296 := Nat.or_lt_two_pow (n := 32) h3 h4
  have ht := top_bit _ h5
  rw [Nat.testBit_or, Nat.testBit_and, Nat.testBit_and, Nat.testBit_xor, Nat.testBit_xor, Nat.testBit_xor, top_bit X hX, top_bit Y hY, top_bit D hD1] at ht
  have hM : (4294967295 : Nat).testBit 31 = true := by decide
  rw [hM] at ht
  generalize ((4294967295 ^^^ X) &&& Y ||| (4294967295 ^^^ (X ^^^ Y)) &&& D) = N at ht h5 ⊢
  by_cases a : 2147483648 ≤ X <;> by_cases b : 2147483648 ≤ Y <;> by_cases d : 2147483648 ≤ D <;> by_cases n : 2147483648 ≤ N <;> simp [a, b, d, n] at ht <;> (split <;> omega)

/-- Sub32's results. -/
def SubRes (x y b : Int) (w : World) (e : Ending) (w' : World) : Prop := e = .returned (.tuple #[.int .u32 ((x - y - b) % 4294967296), .int .u32 (if x < y + b then 1 else 0)]) ∧ w = w'

set_option maxRecDepth 100000 in
theorem Sub32_ok (x y b : Int) (w : World) (x0 : 0 ≤ x) (x1 : x < 4294967296) (y0 : 0 ≤ y) (y1 : y < 4294967296) (b0 : 0 ≤ b) (b1 : b ≤ 1) :
    Calls Try.prog 99 #[.int .u32 x, .int .u32 y, .int .u32 b] w (SubRes x y b w) := by
  go_enter Try.func99, Try.ntmps99
  go_wp2
  go_ret2
  refine ⟨?_, rfl⟩
  obtain ⟨X, rfl⟩ := Int.eq_ofNat_of_zero_le x0
  obtain ⟨Y, rfl⟩ := Int.eq_ofNat_of_zero_le y0
  obtain ⟨B, rfl⟩ := Int.eq_ofNat_of_zero_le b0
  rw [borrow_bit X Y B (by omega) (by omega) (by omega)]
  rfl
theorem Add32_ok (x y b : Int) (w : World) (x0 : 0 ≤ x) (x1 : x < 4294967296) (y0 : 0 ≤ y) (y1 : y < 4294967296) (b0 : 0 ≤ b) (b1 : b ≤ 1) :
    Calls Try.prog 102 #[.int .u32 x, .int .u32 y, .int .u32 b] w fun e w' => e = .returned (.tuple #[.int .u32 ((x + y + b) % 4294967296), .int .u32 ((x + y + b) / 4294967296)]) ∧ w = w' := by
  go_enter Try.func102, Try.ntmps102
  go_wp2
  go_ret2
  refine ⟨?_, rfl⟩
  simp

theorem isNaN_ok (x : Int) (w : World) : Calls Try.prog 107 #[.int .u32 x] w fun e w' => e = .returned (.bool false) ∧ w = w' := by
  go_enter Try.func107, Try.ntmps107
  go_wp2
  go_ret
  exact ⟨rfl, rfl⟩
/-- The order of two numbers. -/
def cmp3 (x y : Int) : Int := if x < y then -1 else if y < x then 1 else 0
def RetC (x y : Int) (w : World) (e : Ending) (w' : World) : Prop := e = .returned (.int .i64 (cmp3 x y)) ∧ w = w'
set_option maxRecDepth 100000 in
theorem CmpU32_ok (x y : Int) (w : World) : Calls Try.prog 98 #[.int .u32 x, .int .u32 y] w (RetC x y w) := by
  by_cases h1 : x < y
  · have E := Aside0.mk (show cmp3 x y = -1 by unfold cmp3; rw [if_pos h1])
    go_enter Try.func98, Try.ntmps98
    go_wp2_with (go_at_call 107; refine (isNaN_ok _ _).mono ?_; rintro e w1 ⟨rfl, rfl⟩)
    go_ret
    exact ⟨by rw [E.out]; rfl, rfl⟩
  · by_cases h2 : y < x
    · have E := Aside0.mk (show cmp3 x y = 1 by unfold cmp3; rw [if_neg h1, if_pos h2])
      go_enter Try.func98, Try.ntmps98
      go_wp2_with (go_at_call 107; refine (isNaN_ok _ _).mono ?_; rintro e w1 ⟨rfl, rfl⟩)
      go_ret
      exact ⟨by rw [E.out]; rfl, rfl⟩
    · have E := Aside0.mk (show cmp3 x y = 0 by unfold cmp3; rw [if_neg h1, if_neg h2])
      go_enter Try.func98, Try.ntmps98
      go_wp2_with (go_at_call 107; refine (isNaN_ok _ _).mono ?_; rintro e w1 ⟨rfl, rfl⟩)
      go_ret
      exact ⟨by rw [E.out]; rfl, rfl⟩
end Go.Proofs.Ytdkapdgbfejgdaa
