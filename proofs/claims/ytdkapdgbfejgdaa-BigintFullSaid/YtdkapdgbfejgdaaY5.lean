/- bigint.sub and bigint.Int.Add, Sub, Cmp, Sign. -/
import Derived.Test.YtdkapdgbfejgdaaY2
import Derived.Test.YtdkapdgbfejgdaaY3
import Derived.Test.YtdkapdgbfejgdaaY4
set_option linter.unusedVariables false
set_option linter.unusedSimpArgs false
namespace Go.Proofs.Ytdkapdgbfejgdaa
open Go.RowKit Go.Proofs.YtdkapdgbfejgdaaW.PrintWords Go.Proofs.YtdkapdgbfejgdaaW.PrintLast Go.Proofs.YtdkapdgbfejgdaaW.PrintMore

/-- The borrow and the row after k digits of a difference. -/
def SubInv (X Y o : List Int) (k : Nat) (bv : Int) : Prop :=
  o.length = X.length ∧ Okd 4294967296 o ∧ k ≤ X.length ∧ 0 ≤ bv ∧ bv ≤ 1 ∧ vl 4294967296 (o.take k) - 4294967296 ^ k * bv = vl 4294967296 (X.take k) - vl 4294967296 (Y.take k)

theorem SubInv.step {X Y o : List Int} {k : Nat} {bv x y : Int} (h : SubInv X Y o k bv) (hk : k < X.length) (hx : X.getD k 0 = x) (hy : Y.getD k 0 = y) (x0 : 0 ≤ x) (x1 : x < 4294967296) (y0 : 0 ≤ y) (y1 : y < 4294967296) :
    SubInv X Y (o.set k ((x - y - bv) % 4294967296)) (k + 1) (if x < y + bv then 1 else 0) := by
  obtain ⟨h1, h2, h3, h4, h5, h6⟩ := h
  refine ⟨by simp [h1], h2.set k (by omega) (by omega), by omega, by split <;> omega, by split <;> omega, ?_⟩
  rw [vl_set_take _ _ _ _ (by omega), vl_take_succ, vl_take_succ, hx, hy, Int.pow_succ]
  have e : (x - y - bv) % 4294967296 - 4294967296 * (if x < y + bv then 1 else 0) = x - y - bv := by split <;> omega
  have e2 : (4294967296 : Int) ^ k * ((x - y - bv) % 4294967296) - 4294967296 ^ k * 4294967296 * (if x < y + bv then 1 else 0) = 4294967296 ^ k * (x - y - bv) := by
    rw [Int.mul_assoc, ← Int.mul_sub, e]
  rw [Int.mul_sub, Int.mul_sub] at e2
  omega

theorem SubInv.stop {X Y o : List Int} {bv : Int} (h : SubInv X Y o X.length bv) (hle : vl 4294967296 Y ≤ vl 4294967296 X) (hl : Y.length ≤ X.length) : vl 4294967296 o = vl 4294967296 X - vl 4294967296 Y := by
  obtain ⟨h1, h2, h3, h4, h5, h6⟩ := h
  rw [List.take_of_length_le (by omega), List.take_of_length_le (by omega), List.take_of_length_le (by omega)] at h6
  have c := vl_lt (b := 4294967296) (by omega) h2
  rw [h1] at c
  by_cases hc : bv = 0
  · subst hc; simp at h6; exact h6
  · have : bv = 1 := by omega
    subst this; omega

set_option maxHeartbeats 4000000 in
set_option maxRecDepth 100000 in
theorem sub_ok (A0 A1 : Option Addr) (c0 c1 : Nat) (l0 l1 r : List Int) (w : World) (ok : Nat → Prop) (h0 : Okd 4294967296 l0) (h1 : Okd 4294967296 l1) (n0 : l0.length ≤ 100000000) (hll : l1.length ≤ l0.length) (hle : vl 4294967296 l1 ≤ vl 4294967296 l0)
    (hf0 : (⟨.u32, A0, c0, l0⟩ : Rw).at w ok) (hf1 : (⟨.u32, A1, c1, l1⟩ : Rw).at w ok) (hr : dg 4294967296 (vl 4294967296 l0 - vl 4294967296 l1).toNat = r) :
    Calls Try.prog 82 #[.slice A0 l0.length c0, .slice A1 l1.length c1] w (RetL w ok .u32 r) := by
  have H := ((Sit.start w ok).arg hf0).arg hf1
  clear hf0 hf1
  have HR := Aside0.mk hr
  clear hr
  have HLE := Aside0.mk hle
  clear hle
  go_enter Try.func82, Try.ntmps82
  go_wp2_with ((with_reducible refine gate_dst (N := 11) rfl ?_); refine make_event rfl (N := 11) rfl 23 (.tmp 10) (.tmp 10) rfl .u32 93 4 l0.length rfl rfl Try.underlying23 info93 (by omega) (by omega) ?_; intro g hg w1 hbox hb; replace H := H.newbox hg hbox hb; clear hg hbox hb)
  have hI : SubInv l0 l1 (List.replicate l0.length 0) 0 0 := ⟨by simp, Okd.replicate (by omega) _, by omega, by omega, by omega, by simp [vl]⟩
  go_loopw [6, 14] (fun c i wr => ∃ (k : Nat) (cv : Int) (o : List Int), i = .int .i64 k ∧ c = .int .u32 cv ∧ SubInv l0 l1 o k cv ∧ Sit w wr ok [(g, .cells (o.map (Value.int .u32)).toArray 93 (0, 0))] [⟨.u32, A1, c1, l1⟩, ⟨.u32, A0, c0, l0⟩]) (fun _ i _ => l0.length - (intOf i).toNat)
  case atStart => exact ⟨0, 0, _, rfl, rfl, hI, H⟩
  case round =>
    clear H hI
    obtain ⟨k, cv, o, rfl, rfl, hI, H⟩ := hrel
    obtain ⟨i1, i2, i3, i4, i5, -⟩ := id hI
    by_cases hk : k < l0.length
    · have bx := h0.getD (by omega) k
      have by_ := h1.getD (by omega) k
      obtain ⟨x, hx⟩ : ∃ x, l0.getD k 0 = x := ⟨_, rfl⟩
      obtain ⟨y, hy⟩ : ∃ y, l1.getD k 0 = y := ⟨_, rfl⟩
      rw [hx] at bx
      rw [hy] at by_
      obtain ⟨x0, x1⟩ := bx
      obtain ⟨y0, y1⟩ := by_
      have z0 : wr.cell? ⟨g, k, none⟩ = some (.int .u32 (o.getD k 0)) := (H.cell (.head _) k).trans (by simp [List.getD]; rw [List.getElem?_eq_getElem (by omega)]; simp)
      have z1 := H.frozen (g := g) (.head _) k
      have T := Aside0.mk (hI.step hk hx hy x0 x1 y0 y1)
      clear hI
      obtain ⟨ax, ex, rx⟩ := H.read (f := ⟨.u32, A0, c0, l0⟩) (.tail _ (.head _)) k hk
      simp only at ex rx
      subst ex
      rw [hx] at rx
      by_cases hky : k < l1.length
      · obtain ⟨ay, ey, ry⟩ := H.read (f := ⟨.u32, A1, c1, l1⟩) (.head _) k hky
        simp only at ey ry
        subst ey
        rw [hy] at ry
        clear hx hy
        go_wp2_with (go_at_call 99; refine (Sub32_ok x y cv _ x0 x1 y0 y1 i4 i5).mono ?_; rintro e w4 ⟨rfl, rfl⟩; generalize (if x < y + cv then (1 : Int) else 0) = bo at T)
        go_roundw
        case rel => exact ⟨k + 1, _, _, by go_num, rfl, T.out, H.setn [] k _ (by simp [List.map_set])⟩
        case measure => simp [intOf]; omega
      · have hy' : y = 0 := by rw [← hy]; simp [List.getD]; rw [List.getElem?_eq_none (by omega)]; rfl
        clear hx hy
        subst hy'
        go_wp2_with (go_at_call 99; refine (Sub32_ok x 0 cv _ x0 x1 y0 y1 i4 i5).mono ?_; rintro e w4 ⟨rfl, rfl⟩; generalize (if x < 0 + cv then (1 : Int) else 0) = bo at T)
        go_roundw
        case rel => exact ⟨k + 1, _, _, by go_num, rfl, T.out, H.setn [] k _ (by simp [List.map_set])⟩
        case measure => simp [intOf]; omega
    · have ek : k = l0.length := by omega
      subst ek
      have H2 := Aside0.mk (show trimR o = r by
        have := trimR_dg 4294967296 (by omega) o i2
        rw [this]; show dg 4294967296 (vl 4294967296 o).toNat = _; rw [hI.stop HLE.out hll]; exact HR.out)
      clear hI
      go_wp2_with ((with_reducible refine gate_callee (f := 97) rfl ?_); refine goesL_ (some 40) rfl rfl Try.func97 (by kernel_rfl) rfl #[.slice (some ⟨g, 0, none⟩) l0.length l0.length] rfl (by (try simp only [List.map_toArray, List.map_cons, List.map_nil]); first | done | rfl) ?_; refine (trim_ok (some ⟨g, 0, none⟩) l0.length l0.length o _ _ (fun j => j = g) i1 (by omega) (box_row (H.blk (.head _)) i1 (Nat.le_refl _) (by omega)) H2.out).mono ?_; rintro e w3 ⟨A3, c3, rfl, hr, hb⟩; refine ⟨_, rfl, ?_⟩)
      go_ret
      refine ⟨A3, c3, rfl, hr.mono ?_, (H.call hb).below⟩
      rintro j (rfl | hj)
      · exact .inr (H.box _ (.head _)).2
      · exact .inr (Nat.le_trans (below_size H.below) hj)

end Go.Proofs.Ytdkapdgbfejgdaa
