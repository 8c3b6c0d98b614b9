/- The contracts of bigint with the results named, for the walks of the laws. -/
import Derived.Test.YtdkapdgbfejgdaaV
set_option linter.unusedSimpArgs false
namespace Go.Proofs.Ytdkapdgbfejgdaa
open Go.RowKit Go.Proofs.YtdkapdgbfejgdaaW.PrintWords Go.Proofs.YtdkapdgbfejgdaaW.PrintLast Go.Proofs.YtdkapdgbfejgdaaW.PrintMore
set_option linter.unusedVariables false

theorem m8 {α : Type} {x a0 a1 a2 a3 a4 a5 a6 a7 : α} {l : List α} : x ∈ a0 :: a1 :: a2 :: a3 :: a4 :: a5 :: a6 :: a7 :: x :: l := .tail _ m7
theorem m9 {α : Type} {x a0 a1 a2 a3 a4 a5 a6 a7 a8 : α} {l : List α} : x ∈ a0 :: a1 :: a2 :: a3 :: a4 :: a5 :: a6 :: a7 :: a8 :: x :: l := .tail _ m8
theorem m10 {α : Type} {x a0 a1 a2 a3 a4 a5 a6 a7 a8 a9 : α} {l : List α} : x ∈ a0 :: a1 :: a2 :: a3 :: a4 :: a5 :: a6 :: a7 :: a8 :: a9 :: x :: l := .tail _ m9
theorem mt {α : Type} {x a : α} {l : List α} (h : x ∈ l) : x ∈ a :: l := .tail _ h

theorem Sit.ne {w0 w : World} {ok : Nat → Prop} {bs : List (Nat × Obj)} {fs : List Rw} (h : Sit w0 w ok bs fs) {g g' : Nat} (i j : Nat) (hi : (bs.map (·.1))[i]? = some g) (hj : (bs.map (·.1))[j]? = some g') (hij : i ≠ j) : g ≠ g' := by
  rintro rfl
  obtain ⟨hl, -⟩ := List.getElem?_eq_some_iff.mp hi
  exact hij ((List.getElem?_inj hl h.nd).mp (hi.trans hj.symm))

section
variable {A A' : Option Addr} {c c' : Nat} {m n : Int} {w : World} {ok : Nat → Prop}

theorem lim {m : Int} {a : Nat} (h : ln m ≤ a) (ha : a ≤ 10000000) : ln m ≤ 10000000 := Nat.le_trans h ha
theorem bAdd {a b : Nat} {r : Int} (hm : ln m ≤ a) (hn : ln n ≤ b) (h : m + n = r) : ln r ≤ max a b + 1 := by
  subst h; exact ln_add_le a b m n hm hn _ (Int.natAbs_add_le m n)
theorem bSub {a b : Nat} {r : Int} (hm : ln m ≤ a) (hn : ln n ≤ b) (h : m - n = r) : ln r ≤ max a b + 1 := by
  subst h; exact ln_add_le a b m n hm hn _ (by rw [Int.sub_eq_add_neg]; have := Int.natAbs_add_le m (-n); rwa [Int.natAbs_neg] at this)
theorem bMul {a b : Nat} {r : Int} (hm : ln m ≤ a) (hn : ln n ≤ b) (h : m * n = r) : ln r ≤ a + b := by
  subst h
  refine ln_bound _ _ ?_
  rw [Int.natAbs_mul, Nat.pow_add]
  have h1 := Nat.lt_of_lt_of_le (ln_lt m) (pow_le_nat hm)
  have h2 := Nat.lt_of_lt_of_le (ln_lt n) (pow_le_nat hn)
  exact Nat.mul_lt_mul_of_lt_of_lt h1 h2
theorem bNeg {a : Nat} {r : Int} (hm : ln m ≤ a) (h : -m = r) : ln r ≤ a := by subst h; rw [ln_neg]; exact hm
theorem bAbs {m r : Int} {a : Nat} (hm : ln m ≤ a) (h : r.natAbs ≤ m.natAbs) : ln r ≤ a := ln_bound _ _ (Nat.lt_of_le_of_lt h (Nat.lt_of_lt_of_le (ln_lt m) (pow_le_nat hm)))
theorem bOf {r : Int} (h : r.natAbs < 18446744073709551616) : ln r ≤ 2 := ln_bound _ _ h

theorem AddQ (hf : (bw A c m).at w ok) (hf' : (bw A' c' n).at w ok) (hm : ln m ≤ 10000000) (hn : ln n ≤ 10000000) (r : Int) (h : m + n = r) :
    Calls Try.prog 28 #[.agg #[.bool (ng m), .slice A (ln m) c], .agg #[.bool (ng n), .slice A' (ln n) c']] w (RetI w ok r) := by subst h; exact Add_ok A A' c c' m n w ok hf hf' hm hn
theorem SubQ (hf : (bw A c m).at w ok) (hf' : (bw A' c' n).at w ok) (hm : ln m ≤ 10000000) (hn : ln n ≤ 10000000) (r : Int) (h : m - n = r) :
    Calls Try.prog 30 #[.agg #[.bool (ng m), .slice A (ln m) c], .agg #[.bool (ng n), .slice A' (ln n) c']] w (RetI w ok r) := by subst h; exact Sub_ok A A' c c' m n w ok hf hf' hm hn
theorem MulQ (hf : (bw A c m).at w ok) (hf' : (bw A' c' n).at w ok) (hm : ln m ≤ 10000000) (hn : ln n ≤ 10000000) (r : Int) (h : m * n = r) :
    Calls Try.prog 31 #[.agg #[.bool (ng m), .slice A (ln m) c], .agg #[.bool (ng n), .slice A' (ln n) c']] w (RetI w ok r) := by subst h; exact Mul_ok A A' c c' m n w ok hf hf' hm hn
theorem CmpQ (hf : (bw A c m).at w ok) (hf' : (bw A' c' n).at w ok) (hm : ln m ≤ 10000000) (hn : ln n ≤ 10000000) (r : Int) (h : cmp3 m n = r) :
    Calls Try.prog 34 #[.agg #[.bool (ng m), .slice A (ln m) c], .agg #[.bool (ng n), .slice A' (ln n) c']] w (RetI64 r w) := by subst h; exact Cmp_ok A A' c c' m n w ok hf hf' hm hn
theorem NegQ (hf : (bw A c m).at w ok) (hm : ln m ≤ 10000000) (r : Int) (h : -m = r) :
    Calls Try.prog 37 #[.agg #[.bool (ng m), .slice A (ln m) c]] w (RetI w ok r) := by subst h; exact Neg_ok A c m w ok hf (Nat.le_trans hm (by omega))
theorem SignQ (A : Option Addr) (c : Nat) (w : World) (hm : ln m ≤ 10000000) (r : Int) (h : sg m = r) :
    Calls Try.prog 25 #[.agg #[.bool (ng m), .slice A (ln m) c]] w (RetI64 r w) := by subst h; exact Sign_ok A c m w (Nat.le_trans hm (by omega))
theorem TextQ (hf : (bw A c m).at w ok) (hm : ln m ≤ 10000000) (s : ByteArray) (h : tx m = s) :
    Calls Try.prog 26 #[.agg #[.bool (ng m), .slice A (ln m) c]] w (RetT s w) := by subst h; exact Text_ok A c m w ok hf hm
/-- It returns a fresh integer. -/
def RetN (w : World) (m : Int) (e : Ending) (w' : World) : Prop :=
  ∃ A c, e = .returned (.agg #[.bool (ng m), .slice A (ln m) c]) ∧ (bw A c m).at w' (fun k => w.heap.size ≤ k) ∧ Below w.heap.size w w'
theorem OfQ (w : World) (n r : Int) (h : n = r) (h0 : -9223372036854775808 ≤ n) (h1 : n ≤ 9223372036854775807) : Calls Try.prog 27 #[.int .i64 n] w (RetN w r) := by
  subst h
  refine (Of_ok n w (fun _ => False) h0 h1).mono ?_
  rintro e w' ⟨A, c, h1, h2, h3⟩
  exact ⟨A, c, h1, h2.mono (fun k hk => hk.resolve_left id), h3⟩
theorem ParseQ (s : ByteArray) (w : World) (m err : Int) (h : pr s = (m, err)) : Calls Try.prog 23 #[.string s] w (RetPa w m err) := by
  have := Parse_ok s w
  rw [h] at this
  exact this
/-- A row of fresh blocks is a row of the situation. -/
theorem fresh_row {f : Rw} {w w' : World} {Q : Nat → Prop} (h : f.at w' (fun k => w.heap.size ≤ k)) : f.at w' (fun k => Q k ∨ w.heap.size ≤ k) := h.mono (fun _ h => .inr h)
end

end Go.Proofs.Ytdkapdgbfejgdaa
